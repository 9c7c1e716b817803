/- Texts of this claim, one behind the other. -/
import Derived.Test.YthpmmfapolcaiaaDoorZ1
import Derived.Shelf.Strconv.AtoiAll
import Derived.Lib.AtoiErrMem
import Derived.Ground.NamesProg
import Derived.Test.YthpmmfapolcaiaaDoorProg
import Derived.Test.YthpmmfapolcaiaaDoorZ0
import Derived.WideLaws
/- Plain: the bytes of commands and replies, how they are read, and that nothing else is read. -/
namespace Go.Proofs.YthpmmfapolcaiaaDoor
open Go Go.Eng Go.Proofs

instance : DecidableEq RowM := fun a b =>
  if h : a.num = b.num ∧ a.cab = b.cab ∧ a.zone = b.zone ∧ a.exit = b.exit ∧ a.seats = b.seats then
    isTrue (by obtain ⟨h1, h2, h3, h4, h5⟩ := h; cases a; cases b; simp only at h1 h2 h3 h4 h5; rw [h1, h2, h3, h4, h5])
  else isFalse (fun e => h (by rw [e]; exact ⟨rfl, rfl, rfl, rfl, rfl⟩))
/-- A step of a reader, and what follows. -/
def tk {α β : Type} (x : α × RB) (f : α → RB → β) : β := f x.1 x.2
def wNum (most : Nat) (s : RB) : Nat × RB := if (numO s.t).2.1 ≠ 0 ∨ most < (numO s.t).1 then (0, ⟨(numO s.t).2.2, true⟩) else ((numO s.t).1, ⟨(numO s.t).2.2, s.bad⟩)
def wInts : Nat → RB → List Int × RB
  | 0, s => ([], s)
  | k + 1, s => ((rbInt s).1 :: (wInts k (rbInt s).2).1, (wInts k (rbInt s).2).2)
def bitsN : Nat → Nat → List Bool
  | 0, _ => []
  | k + 1, n => decide (n % 2 = 1) :: bitsN k (n / 2)
def wMarks (k : Nat) (s : RB) : List Bool × RB := (bitsN k (wNum (2 ^ k - 1) s).1, (wNum (2 ^ k - 1) s).2)
def wText (s : RB) : Bytes × RB := ((textO s.t).1, ⟨(textO s.t).2.2, s.bad || decide ((textO s.t).2.1 ≠ 0)⟩)
def wRow (s : RB) : RowM × RB := tk (wInts 3 s) fun l s => tk (wMarks 1 s) fun m s => tk (wText s) fun x s => (⟨l.getD 0 0, l.getD 1 0, l.getD 2 0, m.getD 0 false, x⟩, s)
def wRows : Nat → RB → List RowM × RB
  | 0, s => ([], s)
  | k + 1, s => ((wRow s).1 :: (wRows k (wRow s).2).1, (wRows k (wRow s).2).2)
/-- What is read well is just what would be written. -/
structure Codec {α : Type} (D : RB → α × RB) (E : α → Bytes) (ok : α → Prop) : Prop where
  good : ∀ s, (D s).2.bad = false → s.bad = false ∧ s.t = E (D s).1 ++ (D s).2.t ∧ ok (D s).1
  app : ∀ a r, ok a → D ⟨E a ++ r, false⟩ = (a, ⟨r, false⟩)
theorem wNum_codec (most : Nat) (hm : most < 18446744073709551616) : Codec (wNum most) numB (fun n => n ≤ most) where
  good s h := by
    unfold wNum at h ⊢
    split at h
    · cases h
    · next hc =>
      rw [if_neg hc]
      obtain ⟨h1, h2⟩ := not_or.1 hc
      exact ⟨h, numO_ok (Decidable.not_not.1 h1), by simp only; omega⟩
  app a r ha := by
    unfold wNum
    simp only [numO_app a r (by omega)]
    rw [if_neg (by rintro (h | h) <;> omega)]
theorem wInts_len : ∀ k s, (wInts k s).1.length = k
  | 0, _ => rfl
  | k + 1, s => by unfold wInts; simp [wInts_len k]
theorem rbInt_ok' (s : RB) : i64ok (rbInt s).1 := by
  have h2 := numO_lt s.t
  unfold rbInt intO
  exact ok_zig (by simp only; rw [zig_unzig]; exact h2)
theorem wInts_ok : ∀ k s, ∀ z ∈ (wInts k s).1, i64ok z
  | 0, _, z, hz => by cases hz
  | k + 1, s, z, hz => by
    rcases List.mem_cons.1 hz with rfl | hz
    · exact rbInt_ok' s
    · exact wInts_ok k _ z hz
theorem wInts_codec : ∀ k, Codec (wInts k) intsB (fun l => l.length = k ∧ ∀ z ∈ l, i64ok z)
  | 0 => ⟨fun s h => ⟨h, rfl, rfl, by nofun⟩, fun a r ha => by obtain rfl := List.eq_nil_of_length_eq_zero ha.1; rfl⟩
  | k + 1 => by
    have ih := wInts_codec k
    refine ⟨fun s h => ?_, fun a r ha => ?_⟩
    · obtain ⟨h1, e1, -⟩ := ih.good _ (show (wInts k (rbInt s).2).2.bad = false from h)
      obtain ⟨h2, e2, -⟩ := rbInt_good h1
      refine ⟨h2, ?_, wInts_len (k + 1) s, wInts_ok (k + 1) s⟩
      unfold wInts
      simp only [intsB, List.map_cons, List.flatten_cons, List.append_assoc]
      rw [e2]
      congr 1
    · match a, ha with
      | z :: a, ha =>
        have e : intsB (z :: a) ++ r = intB z ++ (intsB a ++ r) := by simp [intsB]
        rw [e]
        unfold wInts
        rw [rbInt_app _ _ (ha.2 z List.mem_cons_self)]
        simp only
        rw [ih.app a r ⟨by simpa using ha.1, fun y hy => ha.2 y (List.mem_cons_of_mem _ hy)⟩]
theorem bitsN_len : ∀ k n, (bitsN k n).length = k
  | 0, _ => rfl
  | k + 1, n => by unfold bitsN; simp [bitsN_len k]
theorem marks_bits : ∀ k n, n < 2 ^ k → marksN (bitsN k n) = n
  | 0, n, h => by simp at h; simp [bitsN, marksN, h]
  | k + 1, n, h => by
    rw [Nat.pow_succ] at h
    unfold bitsN marksN
    rw [marks_bits k (n / 2) (by omega)]
    by_cases h2 : n % 2 = 1
    · rw [decide_eq_true h2, if_pos rfl]; omega
    · rw [decide_eq_false h2, if_neg (by nofun)]; omega
theorem bits_marksN : ∀ l : List Bool, bitsN l.length (marksN l) = l
  | [] => rfl
  | b :: l => by
    rw [List.length_cons]
    unfold bitsN
    have e1 : marksN (b :: l) % 2 = if b then 1 else 0 := by rw [marksN]; split <;> omega
    have e2 : marksN (b :: l) / 2 = marksN l := by rw [marksN]; split <;> omega
    rw [e1, e2, bits_marksN l]
    cases b <;> rfl
theorem wMarks_codec (k : Nat) (hk : k ≤ 8) : Codec (wMarks k) (fun l => numB (marksN l)) (fun l => l.length = k) := by
  have hp : 2 ^ k ≤ 2 ^ 8 := Nat.pow_le_pow_right (by omega) hk
  have hp0 : 0 < 2 ^ k := Nat.two_pow_pos k
  have ih := wNum_codec (2 ^ k - 1) (by omega)
  refine ⟨fun s h => ?_, fun a r ha => ?_⟩
  · obtain ⟨h1, e1, o1⟩ := ih.good s h
    refine ⟨h1, ?_, bitsN_len _ _⟩
    show s.t = numB (marksN (bitsN k _)) ++ _
    rw [marks_bits k _ (by omega)]; exact e1
  · have hl := marksN_lt a
    rw [ha] at hl
    unfold wMarks
    rw [ih.app _ r (by omega)]
    simp only [← ha]
    rw [bits_marksN]
theorem textO_ok {t : Bytes} (h : (textO t).2.1 = 0) : t = textB (textO t).1 ++ (textO t).2.2 ∧ (textO t).1.length < 18446744073709551616 := by
  unfold textO at h ⊢
  cases e : textR t with
  | none => rw [e] at h; cases h
  | some x => obtain ⟨m, r⟩ := x; exact (textR_iff t m r).1 e
theorem textO_app (s r : Bytes) (h : s.length < 18446744073709551616) : textO (textB s ++ r) = (s, 0, r) := by
  unfold textO; rw [(textR_iff _ s r).2 ⟨rfl, h⟩]
theorem wText_codec : Codec wText textB (fun x => x.length < 18446744073709551616) where
  good s h := by
    unfold wText at h ⊢
    simp only [Bool.or_eq_false_iff, decide_eq_false_iff_not, Decidable.not_not] at h
    exact ⟨h.1, textO_ok h.2⟩
  app a r ha := by
    unfold wText; simp only [textO_app a r ha]; rfl
theorem lst1 {α : Type} {l : List α} (d : α) (h : l.length = 1) : l = [l.getD 0 d] := by
  match l, h with
  | [a], _ => rfl
theorem lst2 {α : Type} {l : List α} (d : α) (h : l.length = 2) : l = [l.getD 0 d, l.getD 1 d] := by
  match l, h with
  | [a, b], _ => rfl
theorem lst3 {α : Type} {l : List α} (d : α) (h : l.length = 3) : l = [l.getD 0 d, l.getD 1 d, l.getD 2 d] := by
  match l, h with
  | [a, b, c], _ => rfl
theorem lst4 {α : Type} {l : List α} (d : α) (h : l.length = 4) : l = [l.getD 0 d, l.getD 1 d, l.getD 2 d, l.getD 3 d] := by
  match l, h with
  | [a, b, c, e], _ => rfl
theorem lst6 {α : Type} {l : List α} (d : α) (h : l.length = 6) : l = [l.getD 0 d, l.getD 1 d, l.getD 2 d, l.getD 3 d, l.getD 4 d, l.getD 5 d] := by
  match l, h with
  | [a, b, c, e, f, g], _ => rfl
theorem lst7 {α : Type} {l : List α} (d : α) (h : l.length = 7) : l = [l.getD 0 d, l.getD 1 d, l.getD 2 d, l.getD 3 d, l.getD 4 d, l.getD 5 d, l.getD 6 d] := by
  match l, h with
  | [a, b, c, e, f, g, i], _ => rfl
theorem getD_ok {l : List Int} (h : ∀ z ∈ l, i64ok z) (i : Nat) : i64ok (l.getD i 0) := by
  rw [List.getD_eq_getElem?_getD]
  cases e : l[i]? with
  | none => exact ⟨by decide, by decide⟩
  | some z => exact h z (List.mem_of_getElem? e)
theorem wRow_codec : Codec wRow rowB (fun r => r.ok ∧ r.seats.length < 18446744073709551616) where
  good s h := by
    unfold wRow tk at h ⊢
    simp only at h ⊢
    obtain ⟨h3, e3, o3⟩ := wText_codec.good _ h
    obtain ⟨h2, e2, o2⟩ := (wMarks_codec 1 (by omega)).good _ h3
    obtain ⟨h1, e1, o1⟩ := (wInts_codec 3).good _ h2
    refine ⟨h1, ?_, ⟨getD_ok o1.2 0, getD_ok o1.2 1, getD_ok o1.2 2⟩, o3⟩
    unfold rowB
    simp only
    rw [← lst3 0 o1.1, ← lst1 false o2, e1, e2]
    conv => lhs; rw [e3]
    simp [textsB]
  app a r ha := by
    have e : rowB a ++ r = intsB [a.num, a.cab, a.zone] ++ (numB (marksN [a.exit]) ++ (textB a.seats ++ r)) := by simp [rowB, textsB]
    rw [e]
    unfold wRow tk
    rw [(wInts_codec 3).app _ _ ⟨rfl, by
      intro z hz
      simp only [List.mem_cons, List.mem_nil_iff, or_false] at hz
      rcases hz with rfl | rfl | rfl
      · exact ha.1.num
      · exact ha.1.cab
      · exact ha.1.zone⟩]
    simp only
    rw [(wMarks_codec 1 (by omega)).app _ _ rfl]
    simp only
    rw [wText_codec.app _ _ ha.2]
    rfl
theorem wRows_len : ∀ k s, (wRows k s).1.length = k
  | 0, _ => rfl
  | k + 1, s => by unfold wRows; simp [wRows_len k]
theorem wRows_codec : ∀ k, Codec (wRows k) rowsBt (fun l => l.length = k ∧ ∀ r ∈ l, r.ok ∧ r.seats.length < 18446744073709551616)
  | 0 => ⟨fun s h => ⟨h, rfl, rfl, by nofun⟩, fun a r ha => by obtain rfl := List.eq_nil_of_length_eq_zero ha.1; rfl⟩
  | k + 1 => by
    have ih := wRows_codec k
    refine ⟨fun s h => ?_, fun a r ha => ?_⟩
    · obtain ⟨h1, e1, o1⟩ := ih.good _ (show (wRows k (wRow s).2).2.bad = false from h)
      obtain ⟨h2, e2, o2⟩ := wRow_codec.good _ h1
      refine ⟨h2, ?_, wRows_len (k + 1) s, ?_⟩
      · unfold wRows
        simp only [rowsBt, List.map_cons, List.flatten_cons, List.append_assoc] at e1 ⊢
        rw [← e1]; exact e2
      · intro q hq
        rcases List.mem_cons.1 hq with rfl | hq
        · exact o2
        · exact o1.2 q hq
    · match a, ha with
      | z :: a, ha =>
        have e : rowsBt (z :: a) ++ r = rowB z ++ (rowsBt a ++ r) := by simp [rowsBt]
        rw [e]
        unfold wRows
        rw [wRow_codec.app _ _ (ha.2 z List.mem_cons_self)]
        simp only
        rw [ih.app a r ⟨by simpa using ha.1, fun y hy => ha.2 y (List.mem_cons_of_mem _ hy)⟩]
theorem rowsBt_min (rs : List RowM) : rs.length ≤ (rowsBt rs).length := by
  induction rs with
  | nil => exact Nat.zero_le _
  | cons r rs ih =>
    have h := numB_pos (marksN [r.exit])
    unfold rowsBt at ih ⊢
    unfold rowB at ih ⊢
    simp only [List.map_cons, List.flatten_cons, List.length_append, List.length_cons] at ih ⊢
    omega
structure CmdM where
  kind : Int
  req : Int
  id : Int
  fl : Int
  eq : Int
  cls : Int
  wcab : Int
  fit : Bool
  inf : Bool
  vol : Bool
  stb : Bool
  num : Int
  lt : Nat
  rows : List RowM
  l0 : Int
  l1 : Int
  l2 : Int
  l3 : Int
  text : Bytes
theorem CmdM.ext' {a b : CmdM} (h0 : a.kind = b.kind) (h1 : a.req = b.req) (h2 : a.id = b.id) (h3 : a.fl = b.fl) (h4 : a.eq = b.eq) (h5 : a.cls = b.cls) (h6 : a.wcab = b.wcab) (h7 : a.fit = b.fit) (h8 : a.inf = b.inf) (h9 : a.vol = b.vol) (h10 : a.stb = b.stb) (h11 : a.num = b.num) (h12 : a.lt = b.lt) (h13 : a.rows = b.rows) (h14 : a.l0 = b.l0) (h15 : a.l1 = b.l1) (h16 : a.l2 = b.l2) (h17 : a.l3 = b.l3) (h18 : a.text = b.text) : a = b := by
  cases a; cases b; simp only at h0 h1 h2 h3 h4 h5 h6 h7 h8 h9 h10 h11 h12 h13 h14 h15 h16 h17 h18; rw [h0, h1, h2, h3, h4, h5, h6, h7, h8, h9, h10, h11, h12, h13, h14, h15, h16, h17, h18]
instance : DecidableEq CmdM := fun a b =>
  if h : a.kind = b.kind ∧ a.req = b.req ∧ a.id = b.id ∧ a.fl = b.fl ∧ a.eq = b.eq ∧ a.cls = b.cls ∧ a.wcab = b.wcab ∧ a.fit = b.fit ∧ a.inf = b.inf ∧ a.vol = b.vol ∧ a.stb = b.stb ∧ a.num = b.num ∧ a.lt = b.lt ∧ a.rows = b.rows ∧ a.l0 = b.l0 ∧ a.l1 = b.l1 ∧ a.l2 = b.l2 ∧ a.l3 = b.l3 ∧ a.text = b.text then
    isTrue (by obtain ⟨h0, h1, h2, h3, h4, h5, h6, h7, h8, h9, h10, h11, h12, h13, h14, h15, h16, h17, h18⟩ := h; exact CmdM.ext' h0 h1 h2 h3 h4 h5 h6 h7 h8 h9 h10 h11 h12 h13 h14 h15 h16 h17 h18)
  else isFalse (fun e => h (by rw [e]; exact ⟨rfl, rfl, rfl, rfl, rfl, rfl, rfl, rfl, rfl, rfl, rfl, rfl, rfl, rfl, rfl, rfl, rfl, rfl, rfl⟩))
structure CmdM.ok (c : CmdM) : Prop where
  kind : i64ok c.kind
  req : i64ok c.req
  id : i64ok c.id
  fl : i64ok c.fl
  eq : i64ok c.eq
  cls : i64ok c.cls
  wcab : i64ok c.wcab
  num : i64ok c.num
  lt : c.lt < 256
  rows : ∀ r ∈ c.rows, r.ok
  l0 : i64ok c.l0
  l1 : i64ok c.l1
  l2 : i64ok c.l2
  l3 : i64ok c.l3
/-- The kinds, by what they have bytes for. -/
inductive CK where
  | equip | flight | book | seat | swap | fl | board | id
def ckOf (k : Int) : CK := if k = 1 then .equip else if k = 2 then .flight else if k = 3 then .book else if k = 6 then .seat else if k = 8 then .swap else if k = 9 ∨ k = 10 ∨ k = 13 ∨ k = 14 then .fl else if k = 12 then .board else .id
abbrev hdC (k q : Int) : CmdM := ⟨k, q, 0, 0, 0, 0, 0, false, false, false, false, 0, 0, [], 0, 0, 0, 0, []⟩
def bareF : CK → CmdM → CmdM
  | .equip, c => { hdC c.kind c.req with id := c.id, rows := c.rows }
  | .flight, c => { hdC c.kind c.req with id := c.id, eq := c.eq, l0 := c.l0, l1 := c.l1, l2 := c.l2, l3 := c.l3 }
  | .book, c => { hdC c.kind c.req with id := c.id, fl := c.fl, cls := c.cls, wcab := c.wcab, fit := c.fit, inf := c.inf, vol := c.vol, stb := c.stb }
  | .seat, c => { hdC c.kind c.req with id := c.id, num := c.num, lt := c.lt }
  | .swap, c => { hdC c.kind c.req with fl := c.fl, eq := c.eq }
  | .fl, c => { hdC c.kind c.req with fl := c.fl }
  | .board, c => { hdC c.kind c.req with text := c.text }
  | .id, c => { hdC c.kind c.req with id := c.id }
def fieldsB : CK → CmdM → Bytes
  | .equip, c => intsB [c.id] ++ (numB c.rows.length ++ rowsBt c.rows)
  | .flight, c => intsB [c.id, c.eq] ++ intsB [c.l0, c.l1, c.l2, c.l3]
  | .book, c => intsB [c.id, c.fl, c.wcab, c.cls] ++ numB (marksN [c.fit, c.inf, c.vol, c.stb])
  | .seat, c => intsB [c.id, c.num] ++ numB c.lt
  | .swap, c => intsB [c.fl, c.eq]
  | .fl, c => intsB [c.fl]
  | .board, c => textB c.text
  | .id, c => intsB [c.id]
def wField : CK → Int → Int → RB → CmdM × RB
  | .equip, k, q, s => tk (wInts 1 s) fun l s => tk (wNum s.t.length s) fun n s => tk (wRows n s) fun r s => ({ hdC k q with id := l.getD 0 0, rows := r }, s)
  | .flight, k, q, s => tk (wInts 2 s) fun l s => tk (wInts 4 s) fun x s => ({ hdC k q with id := l.getD 0 0, eq := l.getD 1 0, l0 := x.getD 0 0, l1 := x.getD 1 0, l2 := x.getD 2 0, l3 := x.getD 3 0 }, s)
  | .book, k, q, s => tk (wInts 4 s) fun l s => tk (wMarks 4 s) fun m s => ({ hdC k q with id := l.getD 0 0, fl := l.getD 1 0, wcab := l.getD 2 0, cls := l.getD 3 0, fit := m.getD 0 false, inf := m.getD 1 false, vol := m.getD 2 false, stb := m.getD 3 false }, s)
  | .seat, k, q, s => tk (wInts 2 s) fun l s => tk (wNum 255 s) fun n s => ({ hdC k q with id := l.getD 0 0, num := l.getD 1 0, lt := n }, s)
  | .swap, k, q, s => tk (wInts 2 s) fun l s => ({ hdC k q with fl := l.getD 0 0, eq := l.getD 1 0 }, s)
  | .fl, k, q, s => tk (wInts 1 s) fun l s => ({ hdC k q with fl := l.getD 0 0 }, s)
  | .board, k, q, s => tk (wText s) fun x s => ({ hdC k q with text := x }, s)
  | .id, k, q, s => tk (wInts 1 s) fun l s => ({ hdC k q with id := l.getD 0 0 }, s)
theorem bare_kind (k : CK) (c : CmdM) : (bareF k c).kind = c.kind := by cases k <;> rfl
theorem bare_req (k : CK) (c : CmdM) : (bareF k c).req = c.req := by cases k <;> rfl
theorem bare_bare (k : CK) (c : CmdM) : bareF k (bareF k c) = bareF k c := by cases k <;> rfl
theorem bare_fields (k : CK) (c : CmdM) : fieldsB k (bareF k c) = fieldsB k c := by cases k <;> rfl
theorem ok0 : i64ok 0 := ⟨by decide, by decide⟩
theorem hdC_ok {k q : Int} (hk : i64ok k) (hq : i64ok q) : (hdC k q).ok := ⟨hk, hq, ok0, ok0, ok0, ok0, ok0, ok0, (by decide : 0 < 256), (fun _ h => nomatch h), ok0, ok0, ok0, ok0⟩
theorem bare_ok (k : CK) {c : CmdM} (h : c.ok) : (bareF k c).ok := by
  have h0 := hdC_ok h.kind h.req
  cases k
  · exact { h0 with id := h.id, rows := h.rows }
  · exact { h0 with id := h.id, eq := h.eq, l0 := h.l0, l1 := h.l1, l2 := h.l2, l3 := h.l3 }
  · exact { h0 with id := h.id, fl := h.fl, cls := h.cls, wcab := h.wcab }
  · exact { h0 with id := h.id, num := h.num, lt := h.lt }
  · exact { h0 with fl := h.fl, eq := h.eq }
  · exact { h0 with fl := h.fl }
  · exact { h0 with kind := h.kind }
  · exact { h0 with id := h.id }
/-- What a reading of fields answers. -/
structure FieldR (k : CK) (kd q : Int) (s : RB) (y : CmdM × RB) : Prop where
  bad : s.bad = false
  t : s.t = fieldsB k y.1 ++ y.2.t
  ok : y.1.ok
  bare : bareF k y.1 = y.1
  kind : y.1.kind = kd
  req : y.1.req = q
theorem wField_good {k : CK} {kd q : Int} {s : RB} (hk : i64ok kd) (hq : i64ok q) (hs : s.t.length ≤ 70368744177664) (h : (wField k kd q s).2.bad = false) : FieldR k kd q s (wField k kd q s) := by
  have h0 := hdC_ok hk hq
  cases k
  · have hle : (wInts 1 s).2.t.length ≤ s.t.length := by
      show (intO s.t).2.2.length ≤ _
      exact intO_len s.t
    unfold wField tk at h ⊢
    simp only at h ⊢
    obtain ⟨h3, e3, o3⟩ := (wRows_codec _).good _ h
    obtain ⟨h2, e2, o2⟩ := (wNum_codec _ (by omega)).good _ h3
    obtain ⟨h1, e1, o1⟩ := (wInts_codec 1).good _ h2
    refine ⟨h1, ?_, { h0 with id := getD_ok o1.2 0, rows := fun r hr => (o3.2 r hr).1 }, rfl, rfl, rfl⟩
    simp only [fieldsB]
    rw [← lst1 0 o1.1, o3.1]
    conv => lhs; rw [e1, e2, e3]
    simp
  · unfold wField tk at h ⊢
    simp only at h ⊢
    obtain ⟨h2, e2, o2⟩ := (wInts_codec 4).good _ h
    obtain ⟨h1, e1, o1⟩ := (wInts_codec 2).good _ h2
    refine ⟨h1, ?_, { h0 with id := getD_ok o1.2 0, eq := getD_ok o1.2 1, l0 := getD_ok o2.2 0, l1 := getD_ok o2.2 1, l2 := getD_ok o2.2 2, l3 := getD_ok o2.2 3 }, rfl, rfl, rfl⟩
    simp only [fieldsB]
    rw [← lst2 0 o1.1, ← lst4 0 o2.1]
    conv => lhs; rw [e1, e2]
    simp
  · unfold wField tk at h ⊢
    simp only at h ⊢
    obtain ⟨h2, e2, o2⟩ := (wMarks_codec 4 (by omega)).good _ h
    obtain ⟨h1, e1, o1⟩ := (wInts_codec 4).good _ h2
    refine ⟨h1, ?_, { h0 with id := getD_ok o1.2 0, fl := getD_ok o1.2 1, wcab := getD_ok o1.2 2, cls := getD_ok o1.2 3 }, rfl, rfl, rfl⟩
    simp only [fieldsB]
    rw [← lst4 0 o1.1, ← lst4 false o2]
    conv => lhs; rw [e1, e2]
    simp
  · unfold wField tk at h ⊢
    simp only at h ⊢
    obtain ⟨h2, e2, o2⟩ := (wNum_codec 255 (by omega)).good _ h
    obtain ⟨h1, e1, o1⟩ := (wInts_codec 2).good _ h2
    refine ⟨h1, ?_, { h0 with id := getD_ok o1.2 0, num := getD_ok o1.2 1, lt := (by simp only at o2 ⊢; omega) }, rfl, rfl, rfl⟩
    simp only [fieldsB]
    rw [← lst2 0 o1.1]
    conv => lhs; rw [e1, e2]
    simp
  · unfold wField tk at h ⊢
    simp only at h ⊢
    obtain ⟨h1, e1, o1⟩ := (wInts_codec 2).good _ h
    refine ⟨h1, ?_, { h0 with fl := getD_ok o1.2 0, eq := getD_ok o1.2 1 }, rfl, rfl, rfl⟩
    simp only [fieldsB]
    rw [← lst2 0 o1.1]
    exact e1
  · unfold wField tk at h ⊢
    simp only at h ⊢
    obtain ⟨h1, e1, o1⟩ := (wInts_codec 1).good _ h
    refine ⟨h1, ?_, { h0 with fl := getD_ok o1.2 0 }, rfl, rfl, rfl⟩
    simp only [fieldsB]
    rw [← lst1 0 o1.1]
    exact e1
  · unfold wField tk at h ⊢
    simp only at h ⊢
    obtain ⟨h1, e1, o1⟩ := wText_codec.good _ h
    exact ⟨h1, e1, { h0 with kind := hk }, rfl, rfl, rfl⟩
  · unfold wField tk at h ⊢
    simp only at h ⊢
    obtain ⟨h1, e1, o1⟩ := (wInts_codec 1).good _ h
    refine ⟨h1, ?_, { h0 with id := getD_ok o1.2 0 }, rfl, rfl, rfl⟩
    simp only [fieldsB]
    rw [← lst1 0 o1.1]
    exact e1
theorem all1 {a : Int} (ha : i64ok a) : [a].length = 1 ∧ ∀ z ∈ [a], i64ok z := ⟨rfl, by intro z hz; rw [List.mem_singleton] at hz; rw [hz]; exact ha⟩
theorem all2 {a b : Int} (ha : i64ok a) (hb : i64ok b) : [a, b].length = 2 ∧ ∀ z ∈ [a, b], i64ok z := ⟨rfl, by
  intro z hz
  rcases List.mem_cons.1 hz with rfl | hz
  · exact ha
  · exact (all1 hb).2 z hz⟩
theorem all3 {a b c : Int} (ha : i64ok a) (hb : i64ok b) (hc : i64ok c) : [a, b, c].length = 3 ∧ ∀ z ∈ [a, b, c], i64ok z := ⟨rfl, by
  intro z hz
  rcases List.mem_cons.1 hz with rfl | hz
  · exact ha
  · exact (all2 hb hc).2 z hz⟩
theorem all4 {a b c d : Int} (ha : i64ok a) (hb : i64ok b) (hc : i64ok c) (hd : i64ok d) : [a, b, c, d].length = 4 ∧ ∀ z ∈ [a, b, c, d], i64ok z := ⟨rfl, by
  intro z hz
  rcases List.mem_cons.1 hz with rfl | hz
  · exact ha
  · exact (all3 hb hc hd).2 z hz⟩
theorem wField_app {k : CK} {c : CmdM} (r : Bytes) (hc : c.ok) (hr : ∀ x ∈ c.rows, x.seats.length < 18446744073709551616) (ht : c.text.length < 18446744073709551616) (hl : (fieldsB k c ++ r).length ≤ 70368744177664) : wField k c.kind c.req ⟨fieldsB k c ++ r, false⟩ = (bareF k c, ⟨r, false⟩) := by
  cases k
  · simp only [fieldsB, List.append_assoc] at hl ⊢
    have hm := rowsBt_min c.rows
    simp only [List.length_append] at hl
    unfold wField tk
    simp only
    rw [(wInts_codec 1).app _ _ (all1 hc.id)]
    simp only
    rw [(wNum_codec _ (by simp only [List.length_append]; omega)).app _ _ (by simp only [List.length_append]; omega)]
    simp only
    rw [(wRows_codec _).app _ _ ⟨rfl, fun x hx => ⟨hc.rows x hx, hr x hx⟩⟩]
    rfl
  · simp only [fieldsB, List.append_assoc]
    unfold wField tk
    simp only
    rw [(wInts_codec 2).app _ _ (all2 hc.id hc.eq)]
    simp only
    rw [(wInts_codec 4).app _ _ (all4 hc.l0 hc.l1 hc.l2 hc.l3)]
    rfl
  · simp only [fieldsB, List.append_assoc]
    unfold wField tk
    simp only
    rw [(wInts_codec 4).app _ _ (all4 hc.id hc.fl hc.wcab hc.cls)]
    simp only
    rw [(wMarks_codec 4 (by omega)).app _ _ rfl]
    rfl
  · simp only [fieldsB, List.append_assoc]
    have := hc.lt
    unfold wField tk
    simp only
    rw [(wInts_codec 2).app _ _ (all2 hc.id hc.num)]
    simp only
    rw [(wNum_codec 255 (by omega)).app _ _ (by omega)]
    rfl
  · simp only [fieldsB]
    unfold wField tk
    simp only
    rw [(wInts_codec 2).app _ _ (all2 hc.fl hc.eq)]
    rfl
  · simp only [fieldsB]
    unfold wField tk
    simp only
    rw [(wInts_codec 1).app _ _ (all1 hc.fl)]
    rfl
  · simp only [fieldsB]
    unfold wField tk
    simp only
    rw [wText_codec.app _ _ ht]
    rfl
  · simp only [fieldsB]
    unfold wField tk
    simp only
    rw [(wInts_codec 1).app _ _ (all1 hc.id)]
    rfl
def smallC (c : CmdM) : Bool := decide (c.rows.length ≤ 20) && decide (c.text.length ≤ 200) && c.rows.all fun r => decide (r.seats.length ≤ 40)
def cmdB (c : CmdM) : Bytes := numB c.kind.toNat ++ (intB c.req ++ fieldsB (ckOf c.kind) c)
/-- The command of a payload. -/
def cmdS (t : Bytes) : Option CmdM := tk (wNum 15 ⟨t, false⟩) fun k s => tk (rbInt s) fun q s =>
  if s.bad = true ∨ k = 0 then none else tk (wField (ckOf k) k q s) fun c s => if s.bad = true ∨ s.t ≠ [] ∨ smallC c = false then none else some c
/-- Is the command right? -/
def RightC (c : CmdM) : Prop := 1 ≤ c.kind ∧ c.kind ≤ 15 ∧ smallC c = true ∧ bareF (ckOf c.kind) c = c
instance (c : CmdM) : Decidable (RightC c) := inferInstanceAs (Decidable (_ ∧ _ ∧ _ ∧ _))
theorem small_iff {c : CmdM} : smallC c = true ↔ c.rows.length ≤ 20 ∧ c.text.length ≤ 200 ∧ ∀ r ∈ c.rows, r.seats.length ≤ 40 := by
  unfold smallC
  rw [Bool.and_eq_true, Bool.and_eq_true, decide_eq_true_iff, decide_eq_true_iff, List.all_eq_true, and_assoc]
  simp
theorem small_bare (k : CK) {c : CmdM} (h : smallC c = true) : smallC (bareF k c) = true := by
  obtain ⟨h1, h2, h3⟩ := small_iff.1 h
  refine small_iff.2 ?_
  cases k
  · exact ⟨h1, Nat.zero_le _, h3⟩
  · exact ⟨Nat.zero_le _, Nat.zero_le _, by nofun⟩
  · exact ⟨Nat.zero_le _, Nat.zero_le _, by nofun⟩
  · exact ⟨Nat.zero_le _, Nat.zero_le _, by nofun⟩
  · exact ⟨Nat.zero_le _, Nat.zero_le _, by nofun⟩
  · exact ⟨Nat.zero_le _, Nat.zero_le _, by nofun⟩
  · exact ⟨Nat.zero_le _, h2, by nofun⟩
  · exact ⟨Nat.zero_le _, Nat.zero_le _, by nofun⟩
theorem cmdS_iff {t : Bytes} (ht : t.length ≤ 70368744177664) {c : CmdM} : cmdS t = some c ↔ t = cmdB c ∧ c.ok ∧ RightC c := by
  constructor
  · intro h
    unfold cmdS tk at h
    simp only at h
    split at h
    · cases h
    · next h1 =>
      obtain ⟨h1, h2⟩ := not_or.1 h1
      split at h
      · cases h
      · next h3 =>
        obtain ⟨h3, h4⟩ := not_or.1 h3
        obtain ⟨h4, h5⟩ := not_or.1 h4
        have h1 := Bool.eq_false_iff.2 h1
        have h3 := Bool.eq_false_iff.2 h3
        have h4 := Decidable.not_not.1 h4
        obtain ⟨b1, e1, o1⟩ := rbInt_good h1
        obtain ⟨-, e0, o0⟩ := (wNum_codec 15 (by omega)).good _ b1
        have e0 : t = _ := e0
        have hl0 : (wNum 15 ⟨t, false⟩).2.t.length ≤ t.length := by
          conv => rhs; rw [e0]
          rw [List.length_append]; omega
        have hl1 : (rbInt (wNum 15 ⟨t, false⟩).2).2.t.length ≤ (wNum 15 ⟨t, false⟩).2.t.length := intO_len _
        generalize hn : (wNum 15 ⟨t, false⟩).1 = n at h h1 h2 h3 h4 h5 e0 o0
        generalize (wNum 15 ⟨t, false⟩).2 = s1 at h h1 h3 h4 h5 e0 b1 e1 o1 hl0 hl1
        generalize (rbInt s1).1 = q at h h1 h3 h4 h5 e1 o1
        generalize (rbInt s1).2 = s2 at h h1 h3 h4 h5 e1 hl1
        have hF := wField_good (k := ckOf (n : Int)) (kd := n) (q := q) (s := s2) ⟨by omega, by omega⟩ o1 (by omega) h3
        generalize wField (ckOf (n : Int)) n q s2 = y at h h3 h4 h5 hF
        simp only [Option.some.injEq] at h
        subst h
        have hk := hF.kind
        refine ⟨?_, hF.ok, by omega, by omega, by simpa using h5, by rw [hk]; exact hF.bare⟩
        unfold cmdB
        rw [hk, hF.req]
        have e2 := hF.t
        rw [h4, List.append_nil] at e2
        rw [← e2, ← e1, show ((n : Nat) : Int).toNat = n from rfl]
        exact e0
  · rintro ⟨rfl, hc, h1, h2, h3, h4⟩
    obtain ⟨p1, p2, p3⟩ := small_iff.1 h3
    unfold cmdB at ht ⊢
    unfold cmdS
    rw [(wNum_codec 15 (by omega)).app _ _ (by omega)]
    unfold tk
    simp only
    rw [rbInt_app _ _ hc.req]
    simp only
    rw [if_neg (by rintro (h | h); (· cases h); omega)]
    have e : ((c.kind.toNat : Nat) : Int) = c.kind := by omega
    rw [e]
    have hl : (fieldsB (ckOf c.kind) c ++ []).length ≤ 70368744177664 := by
      simp only [List.length_append, List.length_nil] at ht ⊢; omega
    have := wField_app (k := ckOf c.kind) [] hc (fun x hx => by have := p3 x hx; omega) (by omega) hl
    rw [List.append_nil] at this
    rw [this, h4]
    simp [h3]
theorem cmdB_bare (c : CmdM) : cmdB (bareF (ckOf c.kind) c) = cmdB c := by
  unfold cmdB; rw [bare_kind, bare_req, bare_fields]
/-- What was written of a small command is read as the command that its kind has bytes for. -/
theorem cmdS_cmdB {c : CmdM} (hl : (cmdB c).length ≤ 70368744177664) (hc : c.ok) (h1 : 1 ≤ c.kind) (h2 : c.kind ≤ 15) (h3 : smallC c = true) : cmdS (cmdB c) = some (bareF (ckOf c.kind) c) := by
  refine (cmdS_iff hl).2 ⟨(cmdB_bare c).symm, bare_ok _ hc, ?_, ?_, small_bare _ h3, ?_⟩
  · rw [bare_kind]; exact h1
  · rw [bare_kind]; exact h2
  · rw [bare_kind, bare_bare]
end Go.Proofs.YthpmmfapolcaiaaDoor

/- The contracts on strconv.Atoi at every string, at this dump, by the kit's tool lay-plain; in the form of my own contracts. -/
namespace Go.Proofs
open Go.Shelf
def Tryd.laysAtoi_ren : Go.Shelf.Ren := ⟨fun | 172 => 68 | 244 => 76 | 245 => 77 | 247 => 82 | 279 => 83 | 280 => 84 | 281 => 85 | 282 => 86 | 287 => 91 | 316 => 92 | 171 => 67 | 205 => 93 | 321 => 99 | 322 => 100 | 243 => 75 | 246 => 81 | 283 => 87 | 284 => 88 | 285 => 89 | 286 => 90 | 129 => 95 | 317 => 94 | 318 => 96 | 319 => 97 | 320 => 98 | 337 => 101 | 338 => 102 | n => n, fun | 9 => 9 | 3 => 3 | 75 => 106 | 76 => 107 | 4 => 4 | 5 => 5 | 167 => 153 | 37 => 51 | 0 => 0 | 85 => 154 | 2 => 2 | 168 => 156 | 53 => 59 | 175 => 163 | 46 => 118 | 210 => 166 | 127 => 128 | 145 => 177 | 143 => 175 | 21 => 21 | 171 => 159 | 173 => 161 | 212 => 169 | 51 => 104 | 20 => 20 | 213 => 170 | 232 => 179 | 233 => 180 | 80 => 110 | n => n, fun | 15 => 0 | 16 => 1 | 17 => 2 | 18 => 3 | 19 => 4 | n => n⟩
theorem Tryd.laysAtoi : Go.Proofs.LaysC.n172 Tryd.prog Tryd.laysAtoi_ren := {
  mixed := by kernel_rfl
  f129 := Tryd.func95.trans (congrArg some (by kernel_rfl))
  f171 := Tryd.func67.trans (congrArg some (by kernel_rfl))
  f172 := Tryd.func68.trans (congrArg some (by kernel_rfl))
  f205 := Tryd.func93.trans (congrArg some (by kernel_rfl))
  f243 := Tryd.func75.trans (congrArg some (by kernel_rfl))
  f244 := Tryd.func76.trans (congrArg some (by kernel_rfl))
  f245 := Tryd.func77.trans (congrArg some (by kernel_rfl))
  f246 := Tryd.func81.trans (congrArg some (by kernel_rfl))
  f247 := Tryd.func82.trans (congrArg some (by kernel_rfl))
  f279 := Tryd.func83.trans (congrArg some (by kernel_rfl))
  f280 := Tryd.func84.trans (congrArg some (by kernel_rfl))
  f281 := Tryd.func85.trans (congrArg some (by kernel_rfl))
  f282 := Tryd.func86.trans (congrArg some (by kernel_rfl))
  f283 := Tryd.func87.trans (congrArg some (by kernel_rfl))
  f284 := Tryd.func88.trans (congrArg some (by kernel_rfl))
  f285 := Tryd.func89.trans (congrArg some (by kernel_rfl))
  f286 := Tryd.func90.trans (congrArg some (by kernel_rfl))
  f287 := Tryd.func91.trans (congrArg some (by kernel_rfl))
  f316 := Tryd.func92.trans (congrArg some (by kernel_rfl))
  f317 := Tryd.func94.trans (congrArg some (by kernel_rfl))
  f318 := Tryd.func96.trans (congrArg some (by kernel_rfl))
  f319 := Tryd.func97.trans (congrArg some (by kernel_rfl))
  f320 := Tryd.func98.trans (congrArg some (by kernel_rfl))
  f321 := Tryd.func99.trans (congrArg some (by kernel_rfl))
  f322 := Tryd.func100.trans (congrArg some (by kernel_rfl))
  f337 := Tryd.func101.trans (congrArg some (by kernel_rfl))
  f338 := Tryd.func102.trans (congrArg some (by kernel_rfl))
  t0 := Tryd.underlying0
  a0 := Tryd.isAgg0
  z0 := Tryd.sizeOf0
  v0 := Tryd.zeroValue0
  t2 := Tryd.underlying2
  a2 := Tryd.isAgg2
  z2 := Tryd.sizeOf2
  v2 := Tryd.zeroValue2
  t3 := Tryd.underlying3
  a3 := Tryd.isAgg3
  z3 := Tryd.sizeOf3
  v3 := Tryd.zeroValue3
  t4 := Tryd.underlying4
  a4 := Tryd.isAgg4
  z4 := Tryd.sizeOf4
  v4 := Tryd.zeroValue4
  t5 := Tryd.underlying5
  a5 := Tryd.isAgg5
  z5 := Tryd.sizeOf5
  v5 := Tryd.zeroValue5
  t9 := Tryd.underlying9
  a9 := Tryd.isAgg9
  z9 := Tryd.sizeOf9
  v9 := Tryd.zeroValue9
  t20 := Tryd.underlying20
  a20 := Tryd.isAgg20
  z20 := Tryd.sizeOf20
  v20 := Tryd.zeroValue20
  t21 := Tryd.underlying21
  a21 := Tryd.isAgg21
  z21 := Tryd.sizeOf21
  v21 := Tryd.zeroValue21
  t37 := Tryd.underlying51
  a37 := Tryd.isAgg51
  z37 := Tryd.sizeOf51
  v37 := Tryd.zeroValue51
  t46 := Tryd.underlying118
  a46 := Tryd.isAgg118
  z46 := Tryd.sizeOf118
  v46 := Tryd.zeroValue118
  t51 := Tryd.underlying104
  a51 := Tryd.isAgg104
  z51 := Tryd.sizeOf104
  v51 := Tryd.zeroValue104
  t53 := Tryd.underlying59
  a53 := Tryd.isAgg59
  z53 := Tryd.sizeOf59
  v53 := Tryd.zeroValue59
  t75 := Tryd.underlying106
  a75 := Tryd.isAgg106
  z75 := Tryd.sizeOf106
  v75 := Tryd.zeroValue106
  t76 := Tryd.underlying107
  a76 := Tryd.isAgg107
  z76 := Tryd.sizeOf107
  v76 := Tryd.zeroValue107
  t85 := Tryd.underlying154
  a85 := Tryd.isAgg154
  z85 := Tryd.sizeOf154
  v85 := Tryd.zeroValue154
  t127 := Tryd.underlying128
  a127 := Tryd.isAgg128
  z127 := Tryd.sizeOf128
  v127 := Tryd.zeroValue128
  t143 := Tryd.underlying175
  a143 := Tryd.isAgg175
  z143 := Tryd.sizeOf175
  v143 := Tryd.zeroValue175
  t145 := Tryd.underlying177
  a145 := Tryd.isAgg177
  z145 := Tryd.sizeOf177
  v145 := Tryd.zeroValue177
  t167 := Tryd.underlying153
  a167 := Tryd.isAgg153
  z167 := Tryd.sizeOf153
  v167 := Tryd.zeroValue153
  t168 := Tryd.underlying156
  a168 := Tryd.isAgg156
  z168 := Tryd.sizeOf156
  v168 := Tryd.zeroValue156
  t171 := Tryd.underlying159
  a171 := Tryd.isAgg159
  z171 := Tryd.sizeOf159
  v171 := Tryd.zeroValue159
  t173 := Tryd.underlying161
  a173 := Tryd.isAgg161
  z173 := Tryd.sizeOf161
  v173 := Tryd.zeroValue161
  t175 := Tryd.underlying163
  a175 := Tryd.isAgg163
  z175 := Tryd.sizeOf163
  v175 := Tryd.zeroValue163
  t210 := Tryd.underlying166
  a210 := Tryd.isAgg166
  z210 := Tryd.sizeOf166
  v210 := Tryd.zeroValue166
  t212 := Tryd.underlying169
  a212 := Tryd.isAgg169
  z212 := Tryd.sizeOf169
  v212 := Tryd.zeroValue169
  t213 := Tryd.underlying170
  a213 := Tryd.isAgg170
  z213 := Tryd.sizeOf170
  t232 := Tryd.underlying179
  a232 := Tryd.isAgg179
  z232 := Tryd.sizeOf179
  v232 := Tryd.zeroValue179
  t233 := Tryd.underlying180
  a233 := Tryd.isAgg180
  z233 := Tryd.sizeOf180
  v233 := Tryd.zeroValue180
  g15 := by kernel_rfl
  g16 := by kernel_rfl
  g17 := by kernel_rfl
  g18 := by kernel_rfl
  g19 := by kernel_rfl
  t80 := Tryd.underlying110
  a80 := Tryd.isAgg110
  z80 := Tryd.sizeOf110
  v80 := Tryd.zeroValue110
  i0 := by kernel_rfl
  i2 := by kernel_rfl
  i3 := by kernel_rfl
  i4 := by kernel_rfl
  i5 := by kernel_rfl
  i9 := by kernel_rfl
  i20 := by kernel_rfl
  i21 := by kernel_rfl
  i37 := by kernel_rfl
  i46 := by kernel_rfl
  i51 := by kernel_rfl
  i53 := by kernel_rfl
  i75 := by kernel_rfl
  i76 := by kernel_rfl
  i80 := by kernel_rfl
  i85 := by kernel_rfl
  i127 := by kernel_rfl
  i143 := by kernel_rfl
  i145 := by kernel_rfl
  i167 := by kernel_rfl
  i168 := by kernel_rfl
  i171 := by kernel_rfl
  i173 := by kernel_rfl
  i175 := by kernel_rfl
  i210 := by kernel_rfl
  i212 := by kernel_rfl
  i232 := by kernel_rfl
  i233 := by kernel_rfl
  m15 := by kernel_rfl
  m16 := by kernel_rfl
  m17 := by kernel_rfl
  m18 := by kernel_rfl
  m19 := by kernel_rfl
  c0 := by kernel_rfl
  c2 := by kernel_rfl
  c3 := by kernel_rfl
  c4 := by kernel_rfl
  c5 := by kernel_rfl
  c9 := by kernel_rfl
  c20 := by kernel_rfl
  c21 := by kernel_rfl
  c37 := by kernel_rfl
  c46 := by kernel_rfl
  c51 := by kernel_rfl
  c53 := by kernel_rfl
  c75 := by kernel_rfl
  c76 := by kernel_rfl
  c80 := by kernel_rfl
  c85 := by kernel_rfl
  c127 := by kernel_rfl
  c143 := by kernel_rfl
  c145 := by kernel_rfl
  c167 := by kernel_rfl
  c168 := by kernel_rfl
  c171 := by kernel_rfl
  c173 := by kernel_rfl
  c175 := by kernel_rfl
  c210 := by kernel_rfl
  c212 := by kernel_rfl
  c213 := by kernel_rfl
  c232 := by kernel_rfl
  c233 := by kernel_rfl }
end Go.Proofs
namespace Go.Proofs.YthpmmfapolcaiaaDoor
open Go Go.Eng Go.Proofs Go.RowKit

/-- The blocks of strconv.ErrSyntax, strconv.ErrRange. -/
abbrev errG0 : Nat := 0
abbrev errG1 : Nat := 1
/-- The two variables hold errors. -/
structure ErrVars (w : World) : Prop where
  syn : ∃ t p, w.cell? ⟨errG0, 0, none⟩ = some (.iface t p)
  ran : ∃ t p, w.cell? ⟨errG1, 0, none⟩ = some (.iface t p)
theorem ErrVars.keep {w0 w : World} {T : List Nat} {H : Heap} (h : ErrVars w0) (hS : St w0 T H w) (h0 : errG0 ∉ T) (h1 : errG1 ∉ T) : ErrVars w := by
  obtain ⟨⟨t, p, e⟩, ⟨t', p', e'⟩⟩ := h
  exact ⟨⟨t, p, hS.oldCell h0 e⟩, ⟨t', p', hS.oldCell h1 e'⟩⟩
theorem ErrVars.apart {w : World} (h : ErrVars w) {b : Nat} {x : Value} {l : List Value} {t : TypeId} {fz : Nat × Nat} (hm : w.heap[b]? = some (.cells ⟨x :: l⟩ t fz)) (hx : ∀ t p, x ≠ .iface t p) : b ≠ errG0 ∧ b ≠ errG1 := by
  obtain ⟨⟨t0, p0, e0⟩, ⟨t1, p1, e1⟩⟩ := h
  refine ⟨fun e => ?_, fun e => ?_⟩
  · subst e
    simp [World.cell?, hm] at e0
    exact hx _ _ e0
  · subst e
    simp [World.cell?, hm] at e1
    exact hx _ _ e1
theorem St.of_below {w w' : World} (h : Below w.heap.size w w') : St w [] [] w' :=
  ⟨h.os, h.tape, h.output, h.size, fun b hb _ => h.block b hb, by simp, by simp [keys], by simp⟩
theorem atoiAll_rng {s : Bytes} {v : Int} (h : Lib.atoiAll s = .ok v) : -9223372036854775808 ≤ v ∧ v ≤ 9223372036854775807 := by
  unfold Lib.atoiAll at h
  split at h
  · cases h
  · simp only at h
    split at h
    · cases h
    · cases h
    · split at h
      · cases h
      · split at h
        · cases h
        · simp only [Lib.NumEnd.ok.injEq] at h
          subst h
          split <;> omega
theorem Atoi_specZ {w : World} {s : Bytes} (hs : s.length ≤ 281474976710656) (hE : ErrVars w) : Cl Tryd.prog f_strconv_Atoi [Str s] w fun v w' => St w [] [] w' ∧
    ∃ n ev, v = .tuple ⟨[.int .i64 n, ev]⟩ ∧ (-9223372036854775808 ≤ n ∧ n ≤ 9223372036854775807) ∧ ((Lib.atoiAll s = .ok n ∧ ev = .nilIface) ∨ ((∀ m, Lib.atoiAll s ≠ .ok m) ∧ (n ≤ 0 ∨ 99 < n) ∧ ∃ t p, ev = .iface t p)) := by
  have hsz : (ByteArray.mk (Array.mk s)).size = s.length := rfl
  obtain ⟨⟨t0, p0, e0⟩, ⟨t1, p1, e1⟩⟩ := hE
  refine .inl ⟨Tryd.call68 _ _, ?_⟩
  cases h : Lib.atoiAll s
  · next v =>
    refine Calls.mono (Any.strconv_Atoi_ok Tryd.laysAtoi ⟨⟨s⟩⟩ (by omega) v h w) ?_
    rintro e w' ⟨rfl, hw⟩
    refine ⟨_, rfl, ?_, v, .nilIface, rfl, atoiAll_rng h, .inl ⟨rfl, rfl⟩⟩
    rcases hw with rfl | ⟨t, rfl⟩
    · exact St.start _
    · exact St.of_below (Lib.bytesWorld_below _ _ _)
  · refine Calls.mono (Any.strconv_Atoi_syntax Tryd.laysAtoi ⟨⟨s⟩⟩ (by omega) h _ w e0 (.inr ⟨_, _, rfl⟩)) ?_
    rintro e w' ⟨M, rfl, -, -, hb⟩
    exact ⟨_, rfl, St.of_below hb, 0, _, rfl, ⟨by omega, by omega⟩, .inr ⟨(fun m hm => by cases hm), .inl (Int.le_refl 0), _, _, rfl⟩⟩
  · refine Calls.mono (Any.strconv_Atoi_range Tryd.laysAtoi ⟨⟨s⟩⟩ (by omega) h _ w e1 (.inr ⟨_, _, rfl⟩)) ?_
    rintro e w' ⟨M, rfl, -, -, hb⟩
    exact ⟨_, rfl, St.of_below hb, Lib.atoiSat s, _, rfl, (by unfold Lib.atoiSat; split <;> omega), .inr ⟨(fun m hm => by cases hm), (by unfold Lib.atoiSat; split <;> omega), _, _, rfl⟩⟩
theorem Atoi_spec {w : World} {s : Bytes} (hs : s.length ≤ 281474976710656) (hE : ErrVars w) : Cl Tryd.prog f_strconv_Atoi [Str s] w fun v w' => St w [] [] w' ∧
    ∃ n ev, v = .tuple ⟨[.int .i64 n, ev]⟩ ∧ ((Lib.atoiAll s = .ok n ∧ ev = .nilIface) ∨ ((∀ m, Lib.atoiAll s ≠ .ok m) ∧ (n ≤ 0 ∨ 99 < n) ∧ ∃ t p, ev = .iface t p)) :=
  (Atoi_specZ hs hE).mono fun _ _ ⟨h1, n, ev, h2, _, h3⟩ => ⟨h1, n, ev, h2, h3⟩
end Go.Proofs.YthpmmfapolcaiaaDoor

/- strconv.Itoa below 100. -/
namespace Go.Proofs.YthpmmfapolcaiaaDoor
open Go Go.Eng Go.Proofs
theorem small_spec {w : World} (n : Nat) (hn : n < 100) : Cl Tryd.prog f_internal_strconv_small [.int .i64 n] w fun v w' => v = Str (digB n) ∧ St w [] [] w' := by
  have hS := St.start w
  refine en_internal_strconv_small rfl ?_
  by_cases h : n < 10
  · repeat (first | refine SemW.run tblOk ?_ | refine jA (by omega) ?_ | refine jB (by omega) ?_ | refine jC (by omega) ?_ | refine jD (by omega) ?_ | refine jE rfl ?_ | refine jF (by omega) ?_ | (refine jG ?_; first | with_reducible (first | refine jH ?_ | refine jI ?_ | refine jJ ?_ | refine jK ?_ | refine jL ?_) | refine jM (by omega) ?_ | refine jN (by omega) ?_ | with_reducible refine jM rfl ?_ | refine jM (by assumption) ?_ | refine jN (by assumption) ?_ | refine jM (by decide) ?_ | refine jN (by decide) ?_) | refine jF (ptr_ok tblOk rfl rfl) ?_ | refine jO (fun _ => by kernel_rfl) ?_ | refine jF (by decide) ?_)
    refine Chk.mk ⟨by omega, by omega, by show (_ : Int) ≤ ((36 : Nat) : Int); omega⟩ ?_
    repeat (first | refine SemW.run tblOk ?_ | refine jA (by omega) ?_ | refine jB (by omega) ?_ | refine jC (by omega) ?_ | refine jD (by omega) ?_ | refine jE rfl ?_ | refine jF (by omega) ?_ | (refine jG ?_; first | with_reducible (first | refine jH ?_ | refine jI ?_ | refine jJ ?_ | refine jK ?_ | refine jL ?_) | refine jM (by omega) ?_ | refine jN (by omega) ?_ | with_reducible refine jM rfl ?_ | refine jM (by assumption) ?_ | refine jN (by assumption) ?_ | refine jM (by decide) ?_ | refine jN (by decide) ?_) | refine jF (ptr_ok tblOk rfl rfl) ?_ | refine jO (fun _ => by kernel_rfl) ?_ | refine jF (by decide) ?_)
    refine ⟨?_, hS⟩
    refine congrArg Str ?_
    have key : ∀ i : Fin 10, (List.take ((((i.val : Nat) : Int)) + 1).toNat ([48, 49, 50, 51, 52, 53, 54, 55, 56, 57, 97, 98, 99, 100, 101, 102, 103, 104, 105, 106, 107, 108, 109, 110, 111, 112, 113, 114, 115, 116, 117, 118, 119, 120, 121, 122] : List UInt8)).drop (((i.val : Nat) : Int)).toNat = digB i.val := by decide +kernel
    exact key ⟨n, h⟩
  · repeat (first | refine SemW.run tblOk ?_ | refine jA (by omega) ?_ | refine jB (by omega) ?_ | refine jC (by omega) ?_ | refine jD (by omega) ?_ | refine jE rfl ?_ | refine jF (by omega) ?_ | (refine jG ?_; first | with_reducible (first | refine jH ?_ | refine jI ?_ | refine jJ ?_ | refine jK ?_ | refine jL ?_) | refine jM (by omega) ?_ | refine jN (by omega) ?_ | with_reducible refine jM rfl ?_ | refine jM (by assumption) ?_ | refine jN (by assumption) ?_ | refine jM (by decide) ?_ | refine jN (by decide) ?_) | refine jF (ptr_ok tblOk rfl rfl) ?_ | refine jO (fun _ => by kernel_rfl) ?_ | refine jF (by decide) ?_)
    refine Chk.mk ⟨by omega, by omega, by show (_ : Int) ≤ ((200 : Nat) : Int); omega⟩ ?_
    repeat (first | refine SemW.run tblOk ?_ | refine jA (by omega) ?_ | refine jB (by omega) ?_ | refine jC (by omega) ?_ | refine jD (by omega) ?_ | refine jE rfl ?_ | refine jF (by omega) ?_ | (refine jG ?_; first | with_reducible (first | refine jH ?_ | refine jI ?_ | refine jJ ?_ | refine jK ?_ | refine jL ?_) | refine jM (by omega) ?_ | refine jN (by omega) ?_ | with_reducible refine jM rfl ?_ | refine jM (by assumption) ?_ | refine jN (by assumption) ?_ | refine jM (by decide) ?_ | refine jN (by decide) ?_) | refine jF (ptr_ok tblOk rfl rfl) ?_ | refine jO (fun _ => by kernel_rfl) ?_ | refine jF (by decide) ?_)
    refine ⟨?_, hS⟩
    refine congrArg Str ?_
    obtain ⟨i, rfl⟩ : ∃ i : Fin 100, i.val = n := ⟨⟨n, hn⟩, rfl⟩
    clear hS hn
    revert h i
    decide +kernel
theorem Itoa_spec {w : World} (n : Nat) (hn : n < 100) : Cl Tryd.prog f_strconv_Itoa [.int .i64 n] w fun v w' => v = Str (digB n) ∧ St w [] [] w' := by
  have hS := St.start w
  refine en_strconv_Itoa rfl ?_
  repeat (first | refine SemW.run tblOk ?_ | refine jA (by omega) ?_ | refine jB (by omega) ?_ | refine jC (by omega) ?_ | refine jD (by omega) ?_ | refine jE rfl ?_ | refine jF (by omega) ?_ | (refine jG ?_; first | with_reducible (first | refine jH ?_ | refine jI ?_ | refine jJ ?_ | refine jK ?_ | refine jL ?_) | refine jM (by omega) ?_ | refine jN (by omega) ?_ | with_reducible refine jM rfl ?_ | refine jM (by assumption) ?_ | refine jN (by assumption) ?_ | refine jM (by decide) ?_ | refine jN (by decide) ?_) | refine jF (ptr_ok tblOk rfl rfl) ?_ | refine jO (fun _ => by kernel_rfl) ?_ | refine jF (by decide) ?_)
  refine Cl.mono (P := Tryd.prog) (R := fun v w' => v = Str (digB n) ∧ St w [] [] w') ?_ ?_
  · refine en_internal_strconv_Itoa rfl ?_
    repeat (first | refine SemW.run tblOk ?_ | refine jA (by omega) ?_ | refine jB (by omega) ?_ | refine jC (by omega) ?_ | refine jD (by omega) ?_ | refine jE rfl ?_ | refine jF (by omega) ?_ | (refine jG ?_; first | with_reducible (first | refine jH ?_ | refine jI ?_ | refine jJ ?_ | refine jK ?_ | refine jL ?_) | refine jM (by omega) ?_ | refine jN (by omega) ?_ | with_reducible refine jM rfl ?_ | refine jM (by assumption) ?_ | refine jN (by assumption) ?_ | refine jM (by decide) ?_ | refine jN (by decide) ?_) | refine jF (ptr_ok tblOk rfl rfl) ?_ | refine jO (fun _ => by kernel_rfl) ?_ | refine jF (by decide) ?_)
    refine Cl.mono (P := Tryd.prog) (R := fun v w' => v = Str (digB n) ∧ St w [] [] w') ?_ ?_
    · refine en_internal_strconv_FormatInt rfl ?_
      repeat (first | refine SemW.run tblOk ?_ | refine jA (by omega) ?_ | refine jB (by omega) ?_ | refine jC (by omega) ?_ | refine jD (by omega) ?_ | refine jE rfl ?_ | refine jF (by omega) ?_ | (refine jG ?_; first | with_reducible (first | refine jH ?_ | refine jI ?_ | refine jJ ?_ | refine jK ?_ | refine jL ?_) | refine jM (by omega) ?_ | refine jN (by omega) ?_ | with_reducible refine jM rfl ?_ | refine jM (by assumption) ?_ | refine jN (by assumption) ?_ | refine jM (by decide) ?_ | refine jN (by decide) ?_) | refine jF (ptr_ok tblOk rfl rfl) ?_ | refine jO (fun _ => by kernel_rfl) ?_ | refine jF (by decide) ?_)
      refine Cl.mono (small_spec n hn) ?_
      rintro _ w1 ⟨rfl, hS⟩
      repeat (first | refine SemW.run tblOk ?_ | refine jA (by omega) ?_ | refine jB (by omega) ?_ | refine jC (by omega) ?_ | refine jD (by omega) ?_ | refine jE rfl ?_ | refine jF (by omega) ?_ | (refine jG ?_; first | with_reducible (first | refine jH ?_ | refine jI ?_ | refine jJ ?_ | refine jK ?_ | refine jL ?_) | refine jM (by omega) ?_ | refine jN (by omega) ?_ | with_reducible refine jM rfl ?_ | refine jM (by assumption) ?_ | refine jN (by assumption) ?_ | refine jM (by decide) ?_ | refine jN (by decide) ?_) | refine jF (ptr_ok tblOk rfl rfl) ?_ | refine jO (fun _ => by kernel_rfl) ?_ | refine jF (by decide) ?_)
      exact ⟨rfl, hS⟩
    · rintro _ w1 ⟨rfl, hS⟩
      repeat (first | refine SemW.run tblOk ?_ | refine jA (by omega) ?_ | refine jB (by omega) ?_ | refine jC (by omega) ?_ | refine jD (by omega) ?_ | refine jE rfl ?_ | refine jF (by omega) ?_ | (refine jG ?_; first | with_reducible (first | refine jH ?_ | refine jI ?_ | refine jJ ?_ | refine jK ?_ | refine jL ?_) | refine jM (by omega) ?_ | refine jN (by omega) ?_ | with_reducible refine jM rfl ?_ | refine jM (by assumption) ?_ | refine jN (by assumption) ?_ | refine jM (by decide) ?_ | refine jN (by decide) ?_) | refine jF (ptr_ok tblOk rfl rfl) ?_ | refine jO (fun _ => by kernel_rfl) ?_ | refine jF (by decide) ?_)
      exact ⟨rfl, hS⟩
  · rintro _ w1 ⟨rfl, hS⟩
    repeat (first | refine SemW.run tblOk ?_ | refine jA (by omega) ?_ | refine jB (by omega) ?_ | refine jC (by omega) ?_ | refine jD (by omega) ?_ | refine jE rfl ?_ | refine jF (by omega) ?_ | (refine jG ?_; first | with_reducible (first | refine jH ?_ | refine jI ?_ | refine jJ ?_ | refine jK ?_ | refine jL ?_) | refine jM (by omega) ?_ | refine jN (by omega) ?_ | with_reducible refine jM rfl ?_ | refine jM (by assumption) ?_ | refine jN (by assumption) ?_ | refine jM (by decide) ?_ | refine jN (by decide) ?_) | refine jF (ptr_ok tblOk rfl rfl) ?_ | refine jO (fun _ => by kernel_rfl) ?_ | refine jF (by decide) ?_)
    exact ⟨rfl, hS⟩
end Go.Proofs.YthpmmfapolcaiaaDoor

/- cabin.Label. -/
namespace Go.Proofs.YthpmmfapolcaiaaDoor
open Go Go.Eng Go.Proofs

theorem rune_lt (c : Nat) (h : c < 128) : Utf8.encode (c : Int) = ⟨⟨[UInt8.ofNat c]⟩⟩ := by
  have hv : Utf8.valid (c : Int) = true := by unfold Utf8.valid; simp; omega
  unfold Utf8.encode
  simp only [hv, if_true]
  rw [if_pos (by simpa using h)]
  rfl
theorem runeStr {P : Program} {T0 : Tbl} (hT : TOk P T0) {s d : TypeId} {i id : TI} (hi : tf T0 s = some i) (hid : tf T0 d = some id) (hkd : id.k = .str) {C : World → Prop} {k : IntKind} {c : Nat} (hc : c < 128) {K : Value → Prop} (hK : K (Str [UInt8.ofNat c])) :
    RdG P (convert s d (.int k c)) C K := by
  refine ⟨⟨_, fun w _ => ?_, hK⟩⟩
  obtain ⟨ds, hds⟩ := (hT _ _ hi).some
  have hd := und_of hT hid; rw [hkd] at hd
  rw [run_convert_int_string w s d k c (by rw [hds]; rfl) hd, rune_lt c hc]
theorem between_spec {w : World} (n lo hi : Int) : Cl Tryd.prog f_cabin_between [.int .i64 n, .int .i64 lo, .int .i64 hi] w fun v w' => v = .bool (decide (lo ≤ n) && decide (n ≤ hi)) ∧ St w [] [] w' := by
  have hS := St.start w
  refine en_cabin_between rfl ?_
  by_cases h1 : lo ≤ n
  · repeat (first | refine SemW.run tblOk ?_ | refine jA (by omega) ?_ | refine jB (by omega) ?_ | refine jC (by omega) ?_ | refine jD (by omega) ?_ | refine jE rfl ?_ | refine jF (by omega) ?_ | (refine jG ?_; first | with_reducible (first | refine jH ?_ | refine jI ?_ | refine jJ ?_ | refine jK ?_ | refine jL ?_) | refine jM (by omega) ?_ | refine jN (by omega) ?_ | with_reducible refine jM rfl ?_ | refine jM (by assumption) ?_ | refine jN (by assumption) ?_ | refine jM (by decide) ?_ | refine jN (by decide) ?_) | refine jF (ptr_ok tblOk rfl rfl) ?_ | refine jO (fun _ => by kernel_rfl) ?_ | refine jF (by decide) ?_)
    rw [decide_eq_true h1]
    exact ⟨rfl, hS⟩
  · repeat (first | refine SemW.run tblOk ?_ | refine jA (by omega) ?_ | refine jB (by omega) ?_ | refine jC (by omega) ?_ | refine jD (by omega) ?_ | refine jE rfl ?_ | refine jF (by omega) ?_ | (refine jG ?_; first | with_reducible (first | refine jH ?_ | refine jI ?_ | refine jJ ?_ | refine jK ?_ | refine jL ?_) | refine jM (by omega) ?_ | refine jN (by omega) ?_ | with_reducible refine jM rfl ?_ | refine jM (by assumption) ?_ | refine jN (by assumption) ?_ | refine jM (by decide) ?_ | refine jN (by decide) ?_) | refine jF (ptr_ok tblOk rfl rfl) ?_ | refine jO (fun _ => by kernel_rfl) ?_ | refine jF (by decide) ?_)
    rw [decide_eq_false h1]
    exact ⟨rfl, hS⟩
def seatV (num : Int) (c : Nat) : Value := .agg ⟨[.int .i64 num, .int .u8 c]⟩
theorem Label_spec {w : World} (num : Int) (c : Nat) (hc : c < 256) : Cl Tryd.prog f_cabin_Label [seatV num c] w fun v w' => v = Str (labelB num c) ∧ St w [] [] w' := by
  have hS := St.start w
  refine en_cabin_Label rfl ?_
  unfold seatV
  repeat (first | refine SemW.run tblOk ?_ | refine jA (by omega) ?_ | refine jB (by omega) ?_ | refine jC (by omega) ?_ | refine jD (by omega) ?_ | refine jE rfl ?_ | refine jF (by omega) ?_ | (refine jG ?_; first | with_reducible (first | refine jH ?_ | refine jI ?_ | refine jJ ?_ | refine jK ?_ | refine jL ?_) | refine jM (by omega) ?_ | refine jN (by omega) ?_ | with_reducible refine jM rfl ?_ | refine jM (by assumption) ?_ | refine jN (by assumption) ?_ | refine jM (by decide) ?_ | refine jN (by decide) ?_) | refine jF (ptr_ok tblOk rfl rfl) ?_ | refine jO (fun _ => by kernel_rfl) ?_ | refine jF (by decide) ?_)
  refine hS.al ?_
  intro b w1 _ hS
  have hS : St w [] ((b, .cells ⟨[.int .i64 num, .int .u8 c]⟩ T_api_Seat (0, 0)) :: []) _ := hS
  repeat (first | refine SemW.run tblOk ?_ | refine jA (by omega) ?_ | refine jB (by omega) ?_ | refine jC (by omega) ?_ | refine jD (by omega) ?_ | refine jE rfl ?_ | refine jF (by omega) ?_ | (refine jG ?_; first | with_reducible (first | refine jH ?_ | refine jI ?_ | refine jJ ?_ | refine jK ?_ | refine jL ?_) | refine jM (by omega) ?_ | refine jN (by omega) ?_ | with_reducible refine jM rfl ?_ | refine jM (by assumption) ?_ | refine jN (by assumption) ?_ | refine jM (by decide) ?_ | refine jN (by decide) ?_) | refine jF (ptr_ok tblOk rfl rfl) ?_ | refine jO (fun _ => by kernel_rfl) ?_ | refine jF (by decide) ?_ | refine hS.ld rfl ?_ | refine hS.ldn rfl ?_ | (refine hS.st rfl rfl ?_; intro _ hS))
  refine Cl.mono (between_spec num 1 99) ?_
  rintro _ w2 ⟨rfl, hS'⟩
  have hS := hS.call0 hS'
  by_cases hb : 1 ≤ num ∧ num ≤ 99
  · have hb2 : (decide (1 ≤ num) && decide (num ≤ 99)) = true := by simp [hb.1, hb.2]
    rw [hb2]
    by_cases h1 : c < 65
    · repeat (first | refine SemW.run tblOk ?_ | refine jA (by omega) ?_ | refine jB (by omega) ?_ | refine jC (by omega) ?_ | refine jD (by omega) ?_ | refine jE rfl ?_ | refine jF (by omega) ?_ | (refine jG ?_; first | with_reducible (first | refine jH ?_ | refine jI ?_ | refine jJ ?_ | refine jK ?_ | refine jL ?_) | refine jM (by omega) ?_ | refine jN (by omega) ?_ | with_reducible refine jM rfl ?_ | refine jM (by assumption) ?_ | refine jN (by assumption) ?_ | refine jM (by decide) ?_ | refine jN (by decide) ?_) | refine jF (ptr_ok tblOk rfl rfl) ?_ | refine jO (fun _ => by kernel_rfl) ?_ | refine jF (by decide) ?_ | refine hS.ld rfl ?_ | refine hS.ldn rfl ?_ | (refine hS.st rfl rfl ?_; intro _ hS))
      have : labelB num c = [45] := by unfold labelB; rw [if_neg]; rw [seatOk_iff]; omega
      rw [this]
      exact ⟨rfl, hS.nil⟩
    · by_cases h2 : 90 < c
      · repeat (first | refine SemW.run tblOk ?_ | refine jA (by omega) ?_ | refine jB (by omega) ?_ | refine jC (by omega) ?_ | refine jD (by omega) ?_ | refine jE rfl ?_ | refine jF (by omega) ?_ | (refine jG ?_; first | with_reducible (first | refine jH ?_ | refine jI ?_ | refine jJ ?_ | refine jK ?_ | refine jL ?_) | refine jM (by omega) ?_ | refine jN (by omega) ?_ | with_reducible refine jM rfl ?_ | refine jM (by assumption) ?_ | refine jN (by assumption) ?_ | refine jM (by decide) ?_ | refine jN (by decide) ?_) | refine jF (ptr_ok tblOk rfl rfl) ?_ | refine jO (fun _ => by kernel_rfl) ?_ | refine jF (by decide) ?_ | refine hS.ld rfl ?_ | refine hS.ldn rfl ?_ | (refine hS.st rfl rfl ?_; intro _ hS))
        have : labelB num c = [45] := by unfold labelB; rw [if_neg]; rw [seatOk_iff]; omega
        rw [this]
        exact ⟨rfl, hS.nil⟩
      · have hl : labelB num c = digB num.toNat ++ [UInt8.ofNat c] := by unfold labelB; rw [if_pos]; rw [seatOk_iff]; omega
        obtain ⟨n, rfl⟩ := Int.eq_ofNat_of_zero_le (show 0 ≤ num by omega)
        repeat (first | refine SemW.run tblOk ?_ | refine jA (by omega) ?_ | refine jB (by omega) ?_ | refine jC (by omega) ?_ | refine jD (by omega) ?_ | refine jE rfl ?_ | refine jF (by omega) ?_ | (refine jG ?_; first | with_reducible (first | refine jH ?_ | refine jI ?_ | refine jJ ?_ | refine jK ?_ | refine jL ?_) | refine jM (by omega) ?_ | refine jN (by omega) ?_ | with_reducible refine jM rfl ?_ | refine jM (by assumption) ?_ | refine jN (by assumption) ?_ | refine jM (by decide) ?_ | refine jN (by decide) ?_) | refine jF (ptr_ok tblOk rfl rfl) ?_ | refine jO (fun _ => by kernel_rfl) ?_ | refine jF (by decide) ?_ | refine hS.ld rfl ?_ | refine hS.ldn rfl ?_ | (refine hS.st rfl rfl ?_; intro _ hS))
        refine SemW.draw tblOk mixed (fun w' => St w [] ((b, .cells ⟨[.int .i64 (n : Nat), .int .u8 c]⟩ T_api_Seat (0, 0)) :: []) w') [] [0, 1, 3, 4, 5, 6, 2, 7, 8] (by kernel_rfl) hS.drew ?_
        have hS := hS.drew
        repeat (first | refine SemW.run tblOk ?_ | refine jA (by omega) ?_ | refine jB (by omega) ?_ | refine jC (by omega) ?_ | refine jD (by omega) ?_ | refine jE rfl ?_ | refine jF (by omega) ?_ | (refine jG ?_; first | with_reducible (first | refine jH ?_ | refine jI ?_ | refine jJ ?_ | refine jK ?_ | refine jL ?_) | refine jM (by omega) ?_ | refine jN (by omega) ?_ | with_reducible refine jM rfl ?_ | refine jM (by assumption) ?_ | refine jN (by assumption) ?_ | refine jM (by decide) ?_ | refine jN (by decide) ?_) | refine jF (ptr_ok tblOk rfl rfl) ?_ | refine jO (fun _ => by kernel_rfl) ?_ | refine jF (by decide) ?_ | refine hS.ldC rfl ?_ | refine hS.ldnC rfl ?_)
        have hw : IntKind.i32.wrap (c : Int) = (c : Int) := by unfold IntKind.wrap; simp [IntKind.signed, IntKind.bits]; omega
        rw [hw]
        repeat (first | refine SemW.run tblOk ?_ | refine jA (by omega) ?_ | refine jB (by omega) ?_ | refine jC (by omega) ?_ | refine jD (by omega) ?_ | refine jE rfl ?_ | refine jF (by omega) ?_ | (refine jG ?_; first | with_reducible (first | refine jH ?_ | refine jI ?_ | refine jJ ?_ | refine jK ?_ | refine jL ?_) | refine jM (by omega) ?_ | refine jN (by omega) ?_ | with_reducible refine jM rfl ?_ | refine jM (by assumption) ?_ | refine jN (by assumption) ?_ | refine jM (by decide) ?_ | refine jN (by decide) ?_) | refine jF (ptr_ok tblOk rfl rfl) ?_ | refine jO (fun _ => by kernel_rfl) ?_ | refine jF (by decide) ?_ | refine hS.ldC rfl ?_ | refine hS.ldnC rfl ?_)
        refine runeStr (s := T_int32) (d := T_string) (c := c) tblOk rfl rfl rfl (by omega) ?_
        repeat (first | refine SemW.run tblOk ?_ | refine jA (by omega) ?_ | refine jB (by omega) ?_ | refine jC (by omega) ?_ | refine jD (by omega) ?_ | refine jE rfl ?_ | refine jF (by omega) ?_ | (refine jG ?_; first | with_reducible (first | refine jH ?_ | refine jI ?_ | refine jJ ?_ | refine jK ?_ | refine jL ?_) | refine jM (by omega) ?_ | refine jN (by omega) ?_ | with_reducible refine jM rfl ?_ | refine jM (by assumption) ?_ | refine jN (by assumption) ?_ | refine jM (by decide) ?_ | refine jN (by decide) ?_) | refine jF (ptr_ok tblOk rfl rfl) ?_ | refine jO (fun _ => by kernel_rfl) ?_ | refine jF (by decide) ?_ | refine hS.ldC rfl ?_ | refine hS.ldnC rfl ?_)
        refine Cl.mono (Itoa_spec n (by omega)) ?_
        rintro _ w3 ⟨rfl, hS'⟩
        have hS := hS.call0 hS'
        refine Chk.mk hS ?_
        repeat (first | refine SemW.run tblOk ?_ | refine jA (by omega) ?_ | refine jB (by omega) ?_ | refine jC (by omega) ?_ | refine jD (by omega) ?_ | refine jE rfl ?_ | refine jF (by omega) ?_ | (refine jG ?_; first | with_reducible (first | refine jH ?_ | refine jI ?_ | refine jJ ?_ | refine jK ?_ | refine jL ?_) | refine jM (by omega) ?_ | refine jN (by omega) ?_ | with_reducible refine jM rfl ?_ | refine jM (by assumption) ?_ | refine jN (by assumption) ?_ | refine jM (by decide) ?_ | refine jN (by decide) ?_) | refine jF (ptr_ok tblOk rfl rfl) ?_ | refine jO (fun _ => by kernel_rfl) ?_ | refine jF (by decide) ?_ | refine hS.ldC rfl ?_ | refine hS.ldnC rfl ?_)
        refine Chk.mk (by have : (digB n).length ≤ 2 := by unfold digB; split <;> simp
                          simp only [List.length_singleton]; omega) ?_
        repeat (first | refine SemW.run tblOk ?_ | refine jA (by omega) ?_ | refine jB (by omega) ?_ | refine jC (by omega) ?_ | refine jD (by omega) ?_ | refine jE rfl ?_ | refine jF (by omega) ?_ | (refine jG ?_; first | with_reducible (first | refine jH ?_ | refine jI ?_ | refine jJ ?_ | refine jK ?_ | refine jL ?_) | refine jM (by omega) ?_ | refine jN (by omega) ?_ | with_reducible refine jM rfl ?_ | refine jM (by assumption) ?_ | refine jN (by assumption) ?_ | refine jM (by decide) ?_ | refine jN (by decide) ?_) | refine jF (ptr_ok tblOk rfl rfl) ?_ | refine jO (fun _ => by kernel_rfl) ?_ | refine jF (by decide) ?_ | refine hS.ldC rfl ?_ | refine hS.ldnC rfl ?_)
        rw [hl]
        exact ⟨rfl, hS.nil⟩
  · have : labelB num c = [45] := by unfold labelB; rw [if_neg]; rw [seatOk_iff]; omega
    rw [this]
    have hb' : (decide (1 ≤ num) && decide (num ≤ 99)) = false := by simp; omega
    rw [hb']
    repeat (first | refine SemW.run tblOk ?_ | refine jA (by omega) ?_ | refine jB (by omega) ?_ | refine jC (by omega) ?_ | refine jD (by omega) ?_ | refine jE rfl ?_ | refine jF (by omega) ?_ | (refine jG ?_; first | with_reducible (first | refine jH ?_ | refine jI ?_ | refine jJ ?_ | refine jK ?_ | refine jL ?_) | refine jM (by omega) ?_ | refine jN (by omega) ?_ | with_reducible refine jM rfl ?_ | refine jM (by assumption) ?_ | refine jN (by assumption) ?_ | refine jM (by decide) ?_ | refine jN (by decide) ?_) | refine jF (ptr_ok tblOk rfl rfl) ?_ | refine jO (fun _ => by kernel_rfl) ?_ | refine jF (by decide) ?_ | refine hS.ld rfl ?_ | refine hS.ldn rfl ?_ | (refine hS.st rfl rfl ?_; intro _ hS))
    exact ⟨rfl, hS.nil⟩
end Go.Proofs.YthpmmfapolcaiaaDoor

/- Comparing an error with nil. -/
namespace Go.Eng
open Go
theorem neqHeld {P : Program} {T0 : Tbl} (hT : TOk P T0) {t : TypeId} {i : TI} (hi : tf T0 t = some i) (hk : i.k = .iface) {x y : Operand} {u : TypeId} {v : Value} {K : Value → Prop} (hK : K (.bool true)) :
    PureRun P (do eqGuard .neq t x y (.iface u v) .nilIface; binOp .neq t (.iface u v) .nilIface) K := by
  have h := und_of hT hi; rw [hk] at h
  obtain ⟨ms, h⟩ := h
  have h2 : P.underlying t = some (.interface (P.methodsAt t)) := by simp [Program.methodsAt, h]
  refine ⟨_, fun w => ?_, hK⟩
  rw [Sem.run_bind, run_eqGuard_of P .neq t x y _ _ w (by intro c h; cases h) (by intro h; cases h)]
  exact run_neq_held_nil w t u v h2
theorem neqNilNil {P : Program} {T0 : Tbl} (hT : TOk P T0) {t : TypeId} {i : TI} (hi : tf T0 t = some i) (hk : i.k = .iface) {x : Operand} {c : Value} {K : Value → Prop} (hK : K (.bool false)) :
    PureRun P (do eqGuard .neq t x (.const c) .nilIface .nilIface; binOp .neq t .nilIface .nilIface) K := by
  have h := und_of hT hi; rw [hk] at h
  obtain ⟨ms, h⟩ := h
  have h2 : P.underlying t = some (.interface (P.methodsAt t)) := by simp [Program.methodsAt, h]
  refine ⟨_, fun w => ?_, hK⟩
  have h3 : (eqGuard .neq t x (.const c) .nilIface .nilIface).run P w = .ok () w := by simp [eqGuard]
  rw [Sem.run_bind, h3]
  exact run_neq_nil_nil w t h2
end Go.Eng

/- cabin.Parse; strings.CutPrefix. -/
namespace Go.Proofs.YthpmmfapolcaiaaDoor
open Go Go.Eng Go.Proofs

/-- The seat of a text. -/
def parseB (s : Bytes) : Option (Int × Nat) := match s.getLast? with
  | none => none
  | some c => match Lib.atoiAll s.dropLast with
    | .ok n => if labelB n c.toNat = s then some (n, c.toNat) else none
    | _ => none
theorem atoi_dig : ∀ n : Fin 100, 1 ≤ n.val → Lib.atoiAll (digB n.val) = .ok (n.val : Int) := by decide +kernel
theorem parseB_label {n : Int} {c : Nat} (h : seatOk n c = true) : parseB (labelB n c) = some (n, c) := by
  obtain ⟨h1, h2, h3, h4⟩ := seatOk_iff.1 h
  have e : labelB n c = digB n.toNat ++ [UInt8.ofNat c] := by unfold labelB; rw [if_pos h]
  have hc : (UInt8.ofNat c).toNat = c := by simp; omega
  have ha := atoi_dig ⟨n.toNat, by omega⟩ (by show 1 ≤ n.toNat; omega)
  simp only at ha
  have hn : ((n.toNat : Nat) : Int) = n := by omega
  rw [hn] at ha
  have hgl : (labelB n c).getLast? = some (UInt8.ofNat c) := by rw [e]; simp
  have hdl : (labelB n c).dropLast = digB n.toNat := by rw [e]; simp
  unfold parseB
  rw [hgl]
  simp only
  rw [hdl, ha]
  simp only
  rw [hc, if_pos rfl]
theorem parseB_some {s : Bytes} {n : Int} {c : Nat} (h : parseB s = some (n, c)) : seatOk n c = true ∧ labelB n c = s := by
  unfold parseB at h
  cases hl : s.getLast? with
  | none => rw [hl] at h; cases h
  | some x =>
    rw [hl] at h
    simp only at h
    cases ha : Lib.atoiAll s.dropLast
    · rename_i m
      rw [ha] at h
      simp only at h
      split at h
      · rename_i he
        simp only [Option.some.injEq, Prod.mk.injEq] at h
        obtain ⟨rfl, rfl⟩ := h
        refine ⟨?_, he⟩
        cases hs : seatOk m x.toNat with
        | true => rfl
        | false =>
          have : labelB m x.toNat = [45] := (labelB_dash _ _).2 hs
          rw [this] at he
          subst he
          cases ha
      · cases h
    · rw [ha] at h; cases h
    · rw [ha] at h; cases h
/-- What Parse answers. -/
def parseO (s : Bytes) : Int × Nat × Bool := match parseB s with
  | some (n, c) => (n, c, true)
  | none => (0, 0, false)
def seatAt (n : Int) (c : Nat) : Value := .agg ⟨[.int .i64 n, .int .u8 c]⟩
set_option maxHeartbeats 1000000 in
theorem Parse_spec {w : World} {s : Bytes} (hs : s.length ≤ 70368744177664) (hE : ErrVars w) :
    Cl Tryd.prog f_cabin_Parse [Str s] w fun v w' => v = .tuple ⟨[seatAt (parseO s).1 (parseO s).2.1, .bool (parseO s).2.2]⟩ ∧ St w [] [] w' := by
  have hS := St.start w
  refine en_cabin_Parse rfl ?_
  unfold seatAt parseO
  rcases List.eq_nil_or_concat s with rfl | ⟨s', c, rfl⟩
  · have hp : parseB [] = none := rfl
    rw [hp]
    repeat (first | refine SemW.run tblOk ?_ | refine jA (by omega) ?_ | refine jB (by omega) ?_ | refine jC (by omega) ?_ | refine jD (by omega) ?_ | refine jE rfl ?_ | refine jF (by omega) ?_ | (refine jG ?_; first | with_reducible (first | refine jH ?_ | refine jI ?_ | refine jJ ?_ | refine jK ?_ | refine jL ?_) | refine jM (by omega) ?_ | refine jN (by omega) ?_ | with_reducible refine jM rfl ?_ | refine jM (by assumption) ?_ | refine jN (by assumption) ?_ | refine jM (by decide) ?_ | refine jN (by decide) ?_) | refine jF (ptr_ok tblOk rfl rfl) ?_ | refine jO (fun _ => by kernel_rfl) ?_ | refine jF (by decide) ?_)
    refine hS.al ?_
    intro b w1 _ hS
    repeat (first | refine SemW.run tblOk ?_ | refine jA (by omega) ?_ | refine jB (by omega) ?_ | refine jC (by omega) ?_ | refine jD (by omega) ?_ | refine jE rfl ?_ | refine jF (by omega) ?_ | (refine jG ?_; first | with_reducible (first | refine jH ?_ | refine jI ?_ | refine jJ ?_ | refine jK ?_ | refine jL ?_) | refine jM (by omega) ?_ | refine jN (by omega) ?_ | with_reducible refine jM rfl ?_ | refine jM (by assumption) ?_ | refine jN (by assumption) ?_ | refine jM (by decide) ?_ | refine jN (by decide) ?_) | refine jF (ptr_ok tblOk rfl rfl) ?_ | refine jO (fun _ => by kernel_rfl) ?_ | refine jF (by decide) ?_ | refine hS.ld rfl ?_ | refine hS.ldn rfl ?_ | (refine hS.st rfl rfl ?_; intro _ hS))
    exact ⟨rfl, hS.nil⟩
  · have hsl : (s' ++ [c]).length = s'.length + 1 := by simp
    have htk : (s' ++ [c]).take s'.length = s' := by simp
    have hgl : (s' ++ [c]).getLast? = some c := by simp
    have hdl : (s' ++ [c]).dropLast = s' := by simp
    have hne : ¬ (s' ++ [c]) = [] := by simp
    have hcc : (s' ++ [c]).getD s'.length 0 = c := by simp
    rw [List.concat_eq_append] at *
    obtain ⟨s, hse⟩ : ∃ s, s = s' ++ [c] := ⟨_, rfl⟩
    rw [← hse] at hs hsl htk hgl hdl hne hcc ⊢
    have hcl := c.toNat_lt
    repeat (first | refine SemW.run tblOk ?_ | refine jA (by omega) ?_ | refine jB (by omega) ?_ | refine jC (by omega) ?_ | refine jD (by omega) ?_ | refine jE rfl ?_ | refine jF (by omega) ?_ | (refine jG ?_; first | with_reducible (first | refine jH ?_ | refine jI ?_ | refine jJ ?_ | refine jK ?_ | refine jL ?_) | refine jM (by omega) ?_ | refine jN (by omega) ?_ | with_reducible refine jM rfl ?_ | refine jM (by assumption) ?_ | refine jN (by assumption) ?_ | refine jM (by decide) ?_ | refine jN (by decide) ?_) | refine jF (ptr_ok tblOk rfl rfl) ?_ | refine jO (fun _ => by kernel_rfl) ?_ | refine jF (by decide) ?_)
    refine hS.al ?_
    intro b w1 _ hS
    have hE1 := hE.keep hS (by simp) (by simp)
    repeat (first | refine SemW.run tblOk ?_ | refine jA (by omega) ?_ | refine jB (by omega) ?_ | refine jC (by omega) ?_ | refine jD (by omega) ?_ | refine jE rfl ?_ | refine jF (by omega) ?_ | (refine jG ?_; first | with_reducible (first | refine jH ?_ | refine jI ?_ | refine jJ ?_ | refine jK ?_ | refine jL ?_) | refine jM (by omega) ?_ | refine jN (by omega) ?_ | with_reducible refine jM rfl ?_ | refine jM (by assumption) ?_ | refine jN (by assumption) ?_ | refine jM (by decide) ?_ | refine jN (by decide) ?_) | refine jF (ptr_ok tblOk rfl rfl) ?_ | refine jO (fun _ => by kernel_rfl) ?_ | refine jF (by decide) ?_ | refine hS.ld rfl ?_ | refine hS.ldn rfl ?_ | (refine hS.st rfl rfl ?_; intro _ hS))
    have e1 : ((s.length : Int) - 1).toNat = s'.length := by omega
    rw [e1, htk]
    refine Cl.mono (Atoi_spec (s := s') (by omega) hE1) ?_
    rintro _ w2 ⟨hS', n, ev, rfl, hev⟩
    have hS := hS.call0 hS'
    have hpb : parseB s = match Lib.atoiAll s' with
        | .ok n => if labelB n c.toNat = s then some (n, c.toNat) else none
        | _ => none := by unfold parseB; rw [hgl]; simp only; rw [hdl]
    rcases hev with ⟨ha, rfl⟩ | ⟨ha, -, t, q, rfl⟩
    · rw [ha] at hpb
      simp only at hpb
      have hLb := Label_spec (w := w2) n c.toNat hcl
      by_cases hlab : labelB n c.toNat = s
      · rw [if_pos hlab] at hpb
        rw [hpb]
        repeat (first | refine SemW.run tblOk ?_ | refine jA (by omega) ?_ | refine jB (by omega) ?_ | refine jC (by omega) ?_ | refine jD (by omega) ?_ | refine jE rfl ?_ | refine jF (by omega) ?_ | (refine jG ?_; first | with_reducible (first | refine jH ?_ | refine jI ?_ | refine jJ ?_ | refine jK ?_ | refine jL ?_) | refine jM (by omega) ?_ | refine jN (by omega) ?_ | with_reducible refine jM rfl ?_ | refine jM (by assumption) ?_ | refine jN (by assumption) ?_ | refine jM (by decide) ?_ | refine jN (by decide) ?_) | refine jF (ptr_ok tblOk rfl rfl) ?_ | refine jO (fun _ => by kernel_rfl) ?_ | refine jF (by decide) ?_ | refine hS.ld rfl ?_ | refine hS.ldn rfl ?_ | (refine hS.st rfl rfl ?_; intro _ hS))
        rw [e1, hcc]
        repeat (first | refine SemW.run tblOk ?_ | refine jA (by omega) ?_ | refine jB (by omega) ?_ | refine jC (by omega) ?_ | refine jD (by omega) ?_ | refine jE rfl ?_ | refine jF (by omega) ?_ | (refine jG ?_; first | with_reducible (first | refine jH ?_ | refine jI ?_ | refine jJ ?_ | refine jK ?_ | refine jL ?_) | refine jM (by omega) ?_ | refine jN (by omega) ?_ | with_reducible refine jM rfl ?_ | refine jM (by assumption) ?_ | refine jN (by assumption) ?_ | refine jM (by decide) ?_ | refine jN (by decide) ?_) | refine jF (ptr_ok tblOk rfl rfl) ?_ | refine jO (fun _ => by kernel_rfl) ?_ | refine jF (by decide) ?_ | refine hS.ld rfl ?_ | refine hS.ldn rfl ?_ | (refine hS.st rfl rfl ?_; intro _ hS))
        refine hS.al ?_
        intro b2 w3 _ hS
        repeat (first | refine SemW.run tblOk ?_ | refine jA (by omega) ?_ | refine jB (by omega) ?_ | refine jC (by omega) ?_ | refine jD (by omega) ?_ | refine jE rfl ?_ | refine jF (by omega) ?_ | (refine jG ?_; first | with_reducible (first | refine jH ?_ | refine jI ?_ | refine jJ ?_ | refine jK ?_ | refine jL ?_) | refine jM (by omega) ?_ | refine jN (by omega) ?_ | with_reducible refine jM rfl ?_ | refine jM (by assumption) ?_ | refine jN (by assumption) ?_ | refine jM (by decide) ?_ | refine jN (by decide) ?_) | refine jF (ptr_ok tblOk rfl rfl) ?_ | refine jO (fun _ => by kernel_rfl) ?_ | refine jF (by decide) ?_ | refine hS.ld rfl ?_ | refine hS.ldn rfl ?_ | (refine hS.st rfl rfl ?_; intro _ hS))
        refine neqNilNil tblOk rfl rfl ?_
        repeat (first | refine SemW.run tblOk ?_ | refine jA (by omega) ?_ | refine jB (by omega) ?_ | refine jC (by omega) ?_ | refine jD (by omega) ?_ | refine jE rfl ?_ | refine jF (by omega) ?_ | (refine jG ?_; first | with_reducible (first | refine jH ?_ | refine jI ?_ | refine jJ ?_ | refine jK ?_ | refine jL ?_) | refine jM (by omega) ?_ | refine jN (by omega) ?_ | with_reducible refine jM rfl ?_ | refine jM (by assumption) ?_ | refine jN (by assumption) ?_ | refine jM (by decide) ?_ | refine jN (by decide) ?_) | refine jF (ptr_ok tblOk rfl rfl) ?_ | refine jO (fun _ => by kernel_rfl) ?_ | refine jF (by decide) ?_ | refine hS.ld rfl ?_ | refine hS.ldn rfl ?_ | (refine hS.st rfl rfl ?_; intro _ hS))
        refine Cl.mono (Label_spec n c.toNat hcl) ?_
        rintro _ w4 ⟨rfl, hS'⟩
        have hS := hS.call0 hS'
        rw [hlab]
        repeat (first | refine SemW.run tblOk ?_ | refine jA (by omega) ?_ | refine jB (by omega) ?_ | refine jC (by omega) ?_ | refine jD (by omega) ?_ | refine jE rfl ?_ | refine jF (by omega) ?_ | (refine jG ?_; first | with_reducible (first | refine jH ?_ | refine jI ?_ | refine jJ ?_ | refine jK ?_ | refine jL ?_) | refine jM (by omega) ?_ | refine jN (by omega) ?_ | with_reducible refine jM rfl ?_ | refine jM (by assumption) ?_ | refine jN (by assumption) ?_ | refine jM (by decide) ?_ | refine jN (by decide) ?_) | refine jF (ptr_ok tblOk rfl rfl) ?_ | refine jO (fun _ => by kernel_rfl) ?_ | refine jF (by decide) ?_ | refine hS.ld rfl ?_ | refine hS.ldn rfl ?_ | (refine hS.st rfl rfl ?_; intro _ hS))
        exact ⟨rfl, hS.nil⟩
      · rw [if_neg hlab] at hpb
        rw [hpb]
        repeat (first | refine SemW.run tblOk ?_ | refine jA (by omega) ?_ | refine jB (by omega) ?_ | refine jC (by omega) ?_ | refine jD (by omega) ?_ | refine jE rfl ?_ | refine jF (by omega) ?_ | (refine jG ?_; first | with_reducible (first | refine jH ?_ | refine jI ?_ | refine jJ ?_ | refine jK ?_ | refine jL ?_) | refine jM (by omega) ?_ | refine jN (by omega) ?_ | with_reducible refine jM rfl ?_ | refine jM (by assumption) ?_ | refine jN (by assumption) ?_ | refine jM (by decide) ?_ | refine jN (by decide) ?_) | refine jF (ptr_ok tblOk rfl rfl) ?_ | refine jO (fun _ => by kernel_rfl) ?_ | refine jF (by decide) ?_ | refine hS.ld rfl ?_ | refine hS.ldn rfl ?_ | (refine hS.st rfl rfl ?_; intro _ hS))
        rw [e1, hcc]
        repeat (first | refine SemW.run tblOk ?_ | refine jA (by omega) ?_ | refine jB (by omega) ?_ | refine jC (by omega) ?_ | refine jD (by omega) ?_ | refine jE rfl ?_ | refine jF (by omega) ?_ | (refine jG ?_; first | with_reducible (first | refine jH ?_ | refine jI ?_ | refine jJ ?_ | refine jK ?_ | refine jL ?_) | refine jM (by omega) ?_ | refine jN (by omega) ?_ | with_reducible refine jM rfl ?_ | refine jM (by assumption) ?_ | refine jN (by assumption) ?_ | refine jM (by decide) ?_ | refine jN (by decide) ?_) | refine jF (ptr_ok tblOk rfl rfl) ?_ | refine jO (fun _ => by kernel_rfl) ?_ | refine jF (by decide) ?_ | refine hS.ld rfl ?_ | refine hS.ldn rfl ?_ | (refine hS.st rfl rfl ?_; intro _ hS))
        refine hS.al ?_
        intro b2 w3 _ hS
        repeat (first | refine SemW.run tblOk ?_ | refine jA (by omega) ?_ | refine jB (by omega) ?_ | refine jC (by omega) ?_ | refine jD (by omega) ?_ | refine jE rfl ?_ | refine jF (by omega) ?_ | (refine jG ?_; first | with_reducible (first | refine jH ?_ | refine jI ?_ | refine jJ ?_ | refine jK ?_ | refine jL ?_) | refine jM (by omega) ?_ | refine jN (by omega) ?_ | with_reducible refine jM rfl ?_ | refine jM (by assumption) ?_ | refine jN (by assumption) ?_ | refine jM (by decide) ?_ | refine jN (by decide) ?_) | refine jF (ptr_ok tblOk rfl rfl) ?_ | refine jO (fun _ => by kernel_rfl) ?_ | refine jF (by decide) ?_ | refine hS.ld rfl ?_ | refine hS.ldn rfl ?_ | (refine hS.st rfl rfl ?_; intro _ hS))
        refine neqNilNil tblOk rfl rfl ?_
        repeat (first | refine SemW.run tblOk ?_ | refine jA (by omega) ?_ | refine jB (by omega) ?_ | refine jC (by omega) ?_ | refine jD (by omega) ?_ | refine jE rfl ?_ | refine jF (by omega) ?_ | (refine jG ?_; first | with_reducible (first | refine jH ?_ | refine jI ?_ | refine jJ ?_ | refine jK ?_ | refine jL ?_) | refine jM (by omega) ?_ | refine jN (by omega) ?_ | with_reducible refine jM rfl ?_ | refine jM (by assumption) ?_ | refine jN (by assumption) ?_ | refine jM (by decide) ?_ | refine jN (by decide) ?_) | refine jF (ptr_ok tblOk rfl rfl) ?_ | refine jO (fun _ => by kernel_rfl) ?_ | refine jF (by decide) ?_ | refine hS.ld rfl ?_ | refine hS.ldn rfl ?_ | (refine hS.st rfl rfl ?_; intro _ hS))
        refine Cl.mono (Label_spec n c.toNat hcl) ?_
        rintro _ w4 ⟨rfl, hS'⟩
        have hS := hS.call0 hS'
        repeat (first | refine SemW.run tblOk ?_ | refine jA (by omega) ?_ | refine jB (by omega) ?_ | refine jC (by omega) ?_ | refine jD (by omega) ?_ | refine jE rfl ?_ | refine jF (by omega) ?_ | (refine jG ?_; first | with_reducible (first | refine jH ?_ | refine jI ?_ | refine jJ ?_ | refine jK ?_ | refine jL ?_) | refine jM (by omega) ?_ | refine jN (by omega) ?_ | with_reducible refine jM rfl ?_ | refine jM (by assumption) ?_ | refine jN (by assumption) ?_ | refine jM (by decide) ?_ | refine jN (by decide) ?_) | refine jF (ptr_ok tblOk rfl rfl) ?_ | refine jO (fun _ => by kernel_rfl) ?_ | refine jF (by decide) ?_ | refine hS.ld rfl ?_ | refine hS.ldn rfl ?_ | (refine hS.st rfl rfl ?_; intro _ hS))
        exact ⟨rfl, hS.nil⟩
    · have hpn : parseB s = none := by
        rw [hpb]
        cases h : Lib.atoiAll s'
        · exact absurd h (ha _)
        · rfl
        · rfl
      rw [hpn]
      repeat (first | refine SemW.run tblOk ?_ | refine jA (by omega) ?_ | refine jB (by omega) ?_ | refine jC (by omega) ?_ | refine jD (by omega) ?_ | refine jE rfl ?_ | refine jF (by omega) ?_ | (refine jG ?_; first | with_reducible (first | refine jH ?_ | refine jI ?_ | refine jJ ?_ | refine jK ?_ | refine jL ?_) | refine jM (by omega) ?_ | refine jN (by omega) ?_ | with_reducible refine jM rfl ?_ | refine jM (by assumption) ?_ | refine jN (by assumption) ?_ | refine jM (by decide) ?_ | refine jN (by decide) ?_) | refine jF (ptr_ok tblOk rfl rfl) ?_ | refine jO (fun _ => by kernel_rfl) ?_ | refine jF (by decide) ?_ | refine hS.ld rfl ?_ | refine hS.ldn rfl ?_ | (refine hS.st rfl rfl ?_; intro _ hS))
      rw [e1, hcc]
      repeat (first | refine SemW.run tblOk ?_ | refine jA (by omega) ?_ | refine jB (by omega) ?_ | refine jC (by omega) ?_ | refine jD (by omega) ?_ | refine jE rfl ?_ | refine jF (by omega) ?_ | (refine jG ?_; first | with_reducible (first | refine jH ?_ | refine jI ?_ | refine jJ ?_ | refine jK ?_ | refine jL ?_) | refine jM (by omega) ?_ | refine jN (by omega) ?_ | with_reducible refine jM rfl ?_ | refine jM (by assumption) ?_ | refine jN (by assumption) ?_ | refine jM (by decide) ?_ | refine jN (by decide) ?_) | refine jF (ptr_ok tblOk rfl rfl) ?_ | refine jO (fun _ => by kernel_rfl) ?_ | refine jF (by decide) ?_ | refine hS.ld rfl ?_ | refine hS.ldn rfl ?_ | (refine hS.st rfl rfl ?_; intro _ hS))
      refine hS.al ?_
      intro b2 w3 _ hS
      repeat (first | refine SemW.run tblOk ?_ | refine jA (by omega) ?_ | refine jB (by omega) ?_ | refine jC (by omega) ?_ | refine jD (by omega) ?_ | refine jE rfl ?_ | refine jF (by omega) ?_ | (refine jG ?_; first | with_reducible (first | refine jH ?_ | refine jI ?_ | refine jJ ?_ | refine jK ?_ | refine jL ?_) | refine jM (by omega) ?_ | refine jN (by omega) ?_ | with_reducible refine jM rfl ?_ | refine jM (by assumption) ?_ | refine jN (by assumption) ?_ | refine jM (by decide) ?_ | refine jN (by decide) ?_) | refine jF (ptr_ok tblOk rfl rfl) ?_ | refine jO (fun _ => by kernel_rfl) ?_ | refine jF (by decide) ?_ | refine hS.ld rfl ?_ | refine hS.ldn rfl ?_ | (refine hS.st rfl rfl ?_; intro _ hS))
      refine neqHeld tblOk rfl rfl ?_
      repeat (first | refine SemW.run tblOk ?_ | refine jA (by omega) ?_ | refine jB (by omega) ?_ | refine jC (by omega) ?_ | refine jD (by omega) ?_ | refine jE rfl ?_ | refine jF (by omega) ?_ | (refine jG ?_; first | with_reducible (first | refine jH ?_ | refine jI ?_ | refine jJ ?_ | refine jK ?_ | refine jL ?_) | refine jM (by omega) ?_ | refine jN (by omega) ?_ | with_reducible refine jM rfl ?_ | refine jM (by assumption) ?_ | refine jN (by assumption) ?_ | refine jM (by decide) ?_ | refine jN (by decide) ?_) | refine jF (ptr_ok tblOk rfl rfl) ?_ | refine jO (fun _ => by kernel_rfl) ?_ | refine jF (by decide) ?_ | refine hS.ld rfl ?_ | refine hS.ldn rfl ?_ | (refine hS.st rfl rfl ?_; intro _ hS))
      exact ⟨rfl, hS.nil⟩
end Go.Proofs.YthpmmfapolcaiaaDoor

/- Plain: replies, their bytes, how they are read. -/
namespace Go.Proofs.YthpmmfapolcaiaaDoor
open Go Go.Eng Go.Proofs

structure ReplyM where
  code : Int
  ids : List Int
  n0 : Int
  n1 : Int
  n2 : Int
  n3 : Int
  over : Bool
  pax : PaxM
  text : Bytes
structure ReplyM.ok (a : ReplyM) : Prop where
  code : i64ok a.code
  ids : ∀ z ∈ a.ids, i64ok z
  n0 : i64ok a.n0
  n1 : i64ok a.n1
  n2 : i64ok a.n2
  n3 : i64ok a.n3
  pax : a.pax.ok
/-- Ints of a passenger, in the order of its cells' bytes. -/
def paxI (p : PaxM) : List Int := [p.id, p.flight, p.cab, p.cls, p.status, p.tick, p.pass]
def replyB (a : ReplyM) : Bytes := intsB [a.code] ++ (numB a.ids.length ++ (intsB a.ids ++ (intsB [a.n0, a.n1, a.n2, a.n3] ++ (numB (marksN [a.over]) ++ (intsB (paxI a.pax) ++ (numB (marksN [a.pax.fit, a.pax.infant, a.pax.vol, a.pax.stb]) ++ (textB (seatB a.pax.num a.pax.c) ++ textB a.text)))))))
/-- Has the seat a text that says it? -/
def seatGood (n : Int) (c : Nat) : Bool := decide (seatB n c ≠ [45])
/-- What a seat's text says: nothing is the zero seat. -/
def seatS (x : Bytes) : Option (Int × Nat) := if x = [] then some (0, 0) else parseB x
theorem seatS_of {n : Int} {c : Nat} (h : seatGood n c = true) : seatS (seatB n c) = some (n, c) := by
  unfold seatGood at h
  have h := of_decide_eq_true h
  unfold seatB at h ⊢
  by_cases hz : n = 0 ∧ c = 0
  · rw [if_pos hz, hz.1, hz.2]; rfl
  · rw [if_neg hz] at h ⊢
    have hs : seatOk n c = true := by
      cases hs : seatOk n c with
      | true => rfl
      | false => exact absurd ((labelB_dash n c).2 hs) h
    have hl := (labelB_len n c).1
    unfold seatS
    rw [if_neg (by intro e; rw [e] at hl; exact absurd hl (by decide)), parseB_label hs]
theorem seatS_some {x : Bytes} {n : Int} {c : Nat} (h : seatS x = some (n, c)) : seatB n c = x ∧ seatGood n c = true ∧ i64ok n ∧ c < 256 := by
  unfold seatS at h
  split at h
  · next hx =>
    simp only [Option.some.injEq, Prod.mk.injEq] at h
    obtain ⟨rfl, rfl⟩ := h
    exact ⟨by rw [hx]; rfl, by decide, ok0, by omega⟩
  · next hx =>
    obtain ⟨h1, h2⟩ := parseB_some h
    obtain ⟨a1, a2, a3, a4⟩ := seatOk_iff.1 h1
    have e : seatB n c = x := by unfold seatB; rw [if_neg (by rintro ⟨h, -⟩; omega), h2]
    refine ⟨e, ?_, ⟨by omega, by omega⟩, by omega⟩
    unfold seatGood
    rw [e]
    refine decide_eq_true fun hd => ?_
    rw [← h2, labelB_dash, h1] at hd
    cases hd
/-- What is read of a payload: the reply without its seat, the seat's text. -/
def wReply (s : RB) : (ReplyM × Bytes) × RB :=
  tk (wInts 1 s) fun a s => tk (wNum s.t.length s) fun n s => tk (wInts n s) fun ids s => tk (wInts 4 s) fun x s => tk (wMarks 1 s) fun o s =>
  tk (wInts 7 s) fun p s => tk (wMarks 4 s) fun m s => tk (wText s) fun seat s => tk (wText s) fun t s =>
  ((⟨a.getD 0 0, ids, x.getD 0 0, x.getD 1 0, x.getD 2 0, x.getD 3 0, o.getD 0 false,
    ⟨p.getD 0 0, p.getD 1 0, p.getD 2 0, m.getD 0 false, m.getD 1 false, m.getD 2 false, m.getD 3 false, p.getD 3 0, p.getD 4 0, p.getD 5 0, p.getD 6 0, 0, 0⟩, t⟩, seat), s)
def withSeat (a : ReplyM) (n : Int) (c : Nat) : ReplyM := { a with pax := { a.pax with num := n, c := c } }
/-- The reply of a payload. -/
def replyS (t : Bytes) : Option ReplyM := tk (wReply ⟨t, false⟩) fun y s => match seatS y.2 with
  | none => none
  | some z => if s.bad = true ∨ s.t ≠ [] then none else some (withSeat y.1 z.1 z.2)
theorem all7 {a b c d e f g : Int} (ha : i64ok a) (hb : i64ok b) (hc : i64ok c) (hd : i64ok d) (he : i64ok e) (hf : i64ok f) (hg : i64ok g) : [a, b, c, d, e, f, g].length = 7 ∧ ∀ z ∈ [a, b, c, d, e, f, g], i64ok z := ⟨rfl, by
  intro z hz
  rcases List.mem_cons.1 hz with rfl | hz
  · exact ha
  rcases List.mem_cons.1 hz with rfl | hz
  · exact hb
  rcases List.mem_cons.1 hz with rfl | hz
  · exact hc
  · exact (all4 hd he hf hg).2 z hz⟩
theorem paxOk_of {l : List Int} {m : List Bool} (hl : ∀ z ∈ l, i64ok z) {n : Int} {c : Nat} (hn : i64ok n) (hc : c < 256) : PaxM.ok ⟨l.getD 0 0, l.getD 1 0, l.getD 2 0, m.getD 0 false, m.getD 1 false, m.getD 2 false, m.getD 3 false, l.getD 3 0, l.getD 4 0, l.getD 5 0, l.getD 6 0, n, c⟩ :=
  ⟨getD_ok hl 0, getD_ok hl 1, getD_ok hl 2, getD_ok hl 3, getD_ok hl 4, getD_ok hl 5, getD_ok hl 6, hn, hc⟩
/-- What a reading of a reply's fields answers. -/
structure ReplyR (s : RB) (y : (ReplyM × Bytes) × RB) : Prop where
  bad : s.bad = false
  t : ∀ n c, seatB n c = y.1.2 → s.t = replyB (withSeat y.1.1 n c) ++ y.2.t
  ok : ∀ n c, i64ok n → c < 256 → (withSeat y.1.1 n c).ok
theorem intsB_min (l : List Int) : l.length ≤ (intsB l).length := by
  induction l with
  | nil => exact Nat.zero_le _
  | cons z l ih =>
    have := numB_pos (zig z)
    simp only [intsB, List.map_cons, List.flatten_cons, List.length_append, List.length_cons, intB] at ih ⊢
    omega
theorem wReply_good {s : RB} (hs : s.t.length ≤ 70368744177664) (h : (wReply s).2.bad = false) : ReplyR s (wReply s) := by
  have hle : (wInts 1 s).2.t.length ≤ s.t.length := by
    show (intO s.t).2.2.length ≤ _
    exact intO_len s.t
  unfold wReply tk at h ⊢
  simp only at h ⊢
  obtain ⟨h9, e9, o9⟩ := wText_codec.good _ h
  obtain ⟨h8, e8, o8⟩ := wText_codec.good _ h9
  obtain ⟨h7, e7, o7⟩ := (wMarks_codec 4 (by omega)).good _ h8
  obtain ⟨h6, e6, o6⟩ := (wInts_codec 7).good _ h7
  obtain ⟨h5, e5, o5⟩ := (wMarks_codec 1 (by omega)).good _ h6
  obtain ⟨h4, e4, o4⟩ := (wInts_codec 4).good _ h5
  obtain ⟨h3, e3, o3⟩ := (wInts_codec _).good _ h4
  obtain ⟨h2, e2, o2⟩ := (wNum_codec _ (by omega)).good _ h3
  obtain ⟨h1, e1, o1⟩ := (wInts_codec 1).good _ h2
  refine ⟨h1, fun n c hn => ?_, fun n c hn hc => ?_⟩
  · simp only at hn
    unfold replyB withSeat paxI
    simp only
    rw [← lst1 0 o1.1, ← lst4 0 o4.1, ← lst1 false o5, ← lst7 0 o6.1, ← lst4 false o7, hn, o3.1]
    conv => lhs; rw [e1, e2, e3, e4, e5, e6, e7, e8, e9]
    simp only [List.append_assoc]
  · unfold withSeat
    simp only
    exact ⟨getD_ok o1.2 0, o3.2, getD_ok o4.2 0, getD_ok o4.2 1, getD_ok o4.2 2, getD_ok o4.2 3, paxOk_of o6.2 hn hc⟩
theorem wReply_app {a : ReplyM} (ha : a.ok) (hl : (replyB a).length ≤ 70368744177664) : wReply ⟨replyB a, false⟩ = ((withSeat a 0 0, seatB a.pax.num a.pax.c), ⟨[], false⟩) := by
  have hsl := seatB_len a.pax.num a.pax.c
  have hm := intsB_min a.ids
  unfold replyB at hl
  simp only [List.length_append] at hl
  have htx : (textB a.text).length = (numB a.text.length).length + a.text.length := by simp [textB]
  have e : replyB a = intsB [a.code] ++ (numB a.ids.length ++ (intsB a.ids ++ (intsB [a.n0, a.n1, a.n2, a.n3] ++ (numB (marksN [a.over]) ++ (intsB (paxI a.pax) ++ (numB (marksN [a.pax.fit, a.pax.infant, a.pax.vol, a.pax.stb]) ++ (textB (seatB a.pax.num a.pax.c) ++ (textB a.text ++ [])))))))) := by rw [List.append_nil]; rfl
  rw [e]
  have hp := ha.pax
  unfold wReply
  unfold tk
  rw [(wInts_codec 1).app _ _ (all1 ha.code)]
  simp only
  rw [(wNum_codec _ (by simp only [List.length_append, List.length_nil]; omega)).app _ _ (by simp only [List.length_append, List.length_nil]; omega)]
  simp only
  rw [(wInts_codec _).app _ _ ⟨rfl, ha.ids⟩]
  simp only
  rw [(wInts_codec 4).app _ _ (all4 ha.n0 ha.n1 ha.n2 ha.n3)]
  simp only
  rw [(wMarks_codec 1 (by omega)).app _ _ rfl]
  simp only
  rw [(wInts_codec 7).app _ _ (show (paxI a.pax).length = 7 ∧ _ from all7 hp.id hp.flight hp.cab hp.cls hp.status hp.tick hp.pass)]
  simp only
  rw [(wMarks_codec 4 (by omega)).app _ _ rfl]
  simp only
  rw [wText_codec.app _ _ (by omega)]
  simp only
  rw [wText_codec.app _ _ (by omega)]
  rfl
def RightR (a : ReplyM) : Prop := seatGood a.pax.num a.pax.c = true
theorem withSeat_self (a : ReplyM) : withSeat (withSeat a 0 0) a.pax.num a.pax.c = a := rfl
theorem replyS_iff {t : Bytes} (ht : t.length ≤ 70368744177664) {a : ReplyM} : replyS t = some a ↔ t = replyB a ∧ a.ok ∧ RightR a := by
  constructor
  · intro h
    unfold replyS tk at h
    simp only at h
    split at h
    · cases h
    · next z hz =>
      split at h
      · cases h
      · next h3 =>
        obtain ⟨h3, h4⟩ := not_or.1 h3
        have h3 := Bool.eq_false_iff.2 h3
        have h4 := Decidable.not_not.1 h4
        have hR := wReply_good ht h3
        obtain ⟨s1, s2, s3, s4⟩ := seatS_some hz
        simp only [Option.some.injEq] at h
        subst h
        refine ⟨?_, hR.ok _ _ s3 s4, s2⟩
        have := hR.t _ _ s1
        rw [h4, List.append_nil] at this
        exact this
  · rintro ⟨rfl, h1, h2⟩
    unfold replyS
    rw [wReply_app h1 ht]
    unfold tk
    simp only
    rw [seatS_of h2]
    simp [withSeat_self]
end Go.Proofs.YthpmmfapolcaiaaDoor

/- Plain: commands and replies read loosely, and checked by writing them again. -/
namespace Go.Proofs.YthpmmfapolcaiaaDoor
open Go Go.Eng Go.Proofs

/-- A row, read loosely. -/
def lRow (s : RB) : RowM × RB := tk (wInts 3 s) fun l s => tk (rbNum s) fun n s => tk (wText s) fun x s => (⟨l.getD 0 0, l.getD 1 0, l.getD 2 0, decide (n = 1), x⟩, s)
def lRows : Nat → RB × List RowM → RB × List RowM
  | 0, x => x
  | n + 1, (s, l) => if s.bad = true then (s, l) else lRows n ((lRow s).2, l ++ [(lRow s).1])
def lRowsT (t : Bytes) : RB × List RowM := lRows (rbNum ⟨t, false⟩).1 ((rbNum ⟨t, false⟩).2, [])
theorem lRow_app (a : RowM) (r : Bytes) (h : a.ok ∧ a.seats.length < 18446744073709551616) : lRow ⟨rowB a ++ r, false⟩ = (a, ⟨r, false⟩) := by
  have e : rowB a ++ r = intsB [a.num, a.cab, a.zone] ++ (numB (marksN [a.exit]) ++ (textB a.seats ++ r)) := by simp [rowB, textsB]
  have hm := marksN_lt [a.exit]
  rw [e]
  unfold lRow tk
  rw [(wInts_codec 3).app _ _ (all3 h.1.num h.1.cab h.1.zone)]
  simp only
  rw [rbNum_app _ _ (by simp only [List.length_singleton] at hm; omega)]
  simp only
  rw [wText_codec.app _ _ h.2]
  have e2 : decide (marksN [a.exit] = 1) = a.exit := by cases a.exit <;> rfl
  rw [e2]
  rfl
theorem lRows_app : ∀ (m : List RowM) (r : Bytes) (l : List RowM), (∀ x ∈ m, x.ok ∧ x.seats.length < 18446744073709551616) → lRows m.length (⟨rowsBt m ++ r, false⟩, l) = (⟨r, false⟩, l ++ m)
  | [], r, l, _ => by simp [lRows, rowsBt]
  | f :: m, r, l, h => by
    rw [List.length_cons]
    unfold lRows
    rw [if_neg nofun]
    have e : rowsBt (f :: m) ++ r = rowB f ++ (rowsBt m ++ r) := by simp [rowsBt]
    rw [e, lRow_app f _ (h f List.mem_cons_self)]
    simp only
    rw [lRows_app m r _ fun g hg => h g (List.mem_cons_of_mem _ hg)]
    simp
theorem lRow_ok (s : RB) : (lRow s).1.ok := ⟨getD_ok (wInts_ok 3 s) 0, getD_ok (wInts_ok 3 s) 1, getD_ok (wInts_ok 3 s) 2⟩
theorem lRows_ok : ∀ (n : Nat) (s : RB) (l : List RowM), (∀ f ∈ l, f.ok) → ∀ f ∈ (lRows n (s, l)).2, f.ok
  | 0, s, l, h => h
  | n + 1, s, l, h => by
    unfold lRows
    split
    · exact h
    · refine lRows_ok n _ _ fun f hf => ?_
      rcases List.mem_append.1 hf with hf | hf
      · exact h f hf
      · rw [List.mem_singleton] at hf; subst hf; exact lRow_ok s
def lField : CK → Int → Int → RB → CmdM × RB
  | .equip, k, q, s => tk (wInts 1 s) fun l s => ({ hdC k q with id := l.getD 0 0, rows := (lRowsT s.t).2 }, ⟨(lRowsT s.t).1.t, s.bad || (lRowsT s.t).1.bad⟩)
  | .flight, k, q, s => tk (wInts 2 s) fun l s => tk (wInts 4 s) fun x s => ({ hdC k q with id := l.getD 0 0, eq := l.getD 1 0, l0 := x.getD 0 0, l1 := x.getD 1 0, l2 := x.getD 2 0, l3 := x.getD 3 0 }, s)
  | .book, k, q, s => tk (wInts 4 s) fun l s => tk (rbNum s) fun n s => ({ hdC k q with id := l.getD 0 0, fl := l.getD 1 0, wcab := l.getD 2 0, cls := l.getD 3 0, fit := (bitsN 4 n).getD 0 false, inf := (bitsN 4 n).getD 1 false, vol := (bitsN 4 n).getD 2 false, stb := (bitsN 4 n).getD 3 false }, s)
  | .seat, k, q, s => tk (wInts 2 s) fun l s => tk (rbNum s) fun n s => ({ hdC k q with id := l.getD 0 0, num := l.getD 1 0, lt := n % 256 }, s)
  | .swap, k, q, s => tk (wInts 2 s) fun l s => ({ hdC k q with fl := l.getD 0 0, eq := l.getD 1 0 }, s)
  | .fl, k, q, s => tk (wInts 1 s) fun l s => ({ hdC k q with fl := l.getD 0 0 }, s)
  | .board, k, q, s => tk (wText s) fun x s => ({ hdC k q with text := x }, s)
  | .id, k, q, s => tk (wInts 1 s) fun l s => ({ hdC k q with id := l.getD 0 0 }, s)
theorem lField_ok (k : CK) {kd q : Int} (hk : i64ok kd) (hq : i64ok q) (s : RB) : (lField k kd q s).1.ok := by
  have h0 := hdC_ok hk hq
  cases k
  · exact { h0 with id := getD_ok (wInts_ok 1 s) 0, rows := lRows_ok _ _ _ (by nofun) }
  · exact { h0 with id := getD_ok (wInts_ok 2 s) 0, eq := getD_ok (wInts_ok 2 s) 1, l0 := getD_ok (wInts_ok 4 _) 0, l1 := getD_ok (wInts_ok 4 _) 1, l2 := getD_ok (wInts_ok 4 _) 2, l3 := getD_ok (wInts_ok 4 _) 3 }
  · exact { h0 with id := getD_ok (wInts_ok 4 s) 0, fl := getD_ok (wInts_ok 4 s) 1, wcab := getD_ok (wInts_ok 4 s) 2, cls := getD_ok (wInts_ok 4 s) 3 }
  · exact { h0 with id := getD_ok (wInts_ok 2 s) 0, num := getD_ok (wInts_ok 2 s) 1, lt := Nat.mod_lt _ (by decide) }
  · exact { h0 with fl := getD_ok (wInts_ok 2 s) 0, eq := getD_ok (wInts_ok 2 s) 1 }
  · exact { h0 with fl := getD_ok (wInts_ok 1 s) 0 }
  · exact { h0 with kind := hk }
  · exact { h0 with id := getD_ok (wInts_ok 1 s) 0 }
theorem lField_app {k : CK} {c : CmdM} (hc : c.ok) (hr : ∀ x ∈ c.rows, x.seats.length < 18446744073709551616) (ht : c.text.length < 18446744073709551616) (hrl : c.rows.length < 18446744073709551616) : lField k c.kind c.req ⟨fieldsB k c, false⟩ = (bareF k c, ⟨[], false⟩) := by
  rw [← List.append_nil (fieldsB k c)]
  cases k
  · simp only [fieldsB, List.append_assoc]
    unfold lField tk
    simp only
    rw [(wInts_codec 1).app _ _ (all1 hc.id)]
    simp only
    unfold lRowsT
    rw [rbNum_app _ _ hrl]
    simp only
    rw [lRows_app _ _ _ fun x hx => ⟨hc.rows x hx, hr x hx⟩]
    rfl
  · simp only [fieldsB, List.append_assoc]
    unfold lField tk
    simp only
    rw [(wInts_codec 2).app _ _ (all2 hc.id hc.eq)]
    simp only
    rw [(wInts_codec 4).app _ _ (all4 hc.l0 hc.l1 hc.l2 hc.l3)]
    rfl
  · have hm := marksN_lt [c.fit, c.inf, c.vol, c.stb]
    simp only [fieldsB, List.append_assoc]
    unfold lField tk
    simp only
    rw [(wInts_codec 4).app _ _ (all4 hc.id hc.fl hc.wcab hc.cls)]
    simp only
    rw [rbNum_app _ _ (by simp only [List.length_cons, List.length_nil] at hm; omega)]
    simp only
    rw [show bitsN 4 (marksN [c.fit, c.inf, c.vol, c.stb]) = _ from bits_marksN [c.fit, c.inf, c.vol, c.stb]]
    rfl
  · have h256 := hc.lt
    simp only [fieldsB, List.append_assoc]
    unfold lField tk
    simp only
    rw [(wInts_codec 2).app _ _ (all2 hc.id hc.num)]
    simp only
    rw [rbNum_app _ _ (by omega)]
    simp only
    rw [Nat.mod_eq_of_lt h256]
    rfl
  · simp only [fieldsB]
    unfold lField tk
    simp only
    rw [(wInts_codec 2).app _ _ (all2 hc.fl hc.eq)]
    rfl
  · simp only [fieldsB]
    unfold lField tk
    simp only
    rw [(wInts_codec 1).app _ _ (all1 hc.fl)]
    rfl
  · simp only [fieldsB]
    unfold lField tk
    simp only
    rw [wText_codec.app _ _ ht]
    rfl
  · simp only [fieldsB]
    unfold lField tk
    simp only
    rw [(wInts_codec 1).app _ _ (all1 hc.id)]
    rfl
def lCmd (t : Bytes) : Option (CmdM × RB) := tk (rbNum ⟨t, false⟩) fun k s => if k < 1 ∨ 15 < k then none else tk (rbInt s) fun q s => some (lField (ckOf k) k q s)
theorem lCmd_ok {t : Bytes} {y : CmdM × RB} (h : lCmd t = some y) : y.1.ok := by
  unfold lCmd tk at h
  simp only at h
  split at h
  · cases h
  · simp only [Option.some.injEq] at h
    subst h
    exact lField_ok _ ⟨by omega, by omega⟩ (rbInt_ok' _) _
theorem lCmd_app {c : CmdM} (hc : c.ok) (hR : RightC c) : lCmd (cmdB c) = some (c, ⟨[], false⟩) := by
  obtain ⟨h1, h2, h3, h4⟩ := hR
  obtain ⟨p1, p2, p3⟩ := small_iff.1 h3
  unfold lCmd cmdB
  rw [rbNum_app _ _ (by omega)]
  unfold tk
  simp only
  rw [if_neg (by omega), rbInt_app _ _ hc.req]
  simp only
  have e : ((c.kind.toNat : Nat) : Int) = c.kind := by omega
  rw [e, lField_app hc (fun x hx => by have := p3 x hx; omega) (by omega) (by omega), h4]
/-- Read loosely, checked by writing it again. -/
def checkC (t : Bytes) (o : Option (CmdM × RB)) : Option CmdM := match o with
  | none => none
  | some y => if y.2.bad = false ∧ RightC y.1 ∧ cmdB y.1 = t then some y.1 else none
theorem check_cmd {t : Bytes} (ht : t.length ≤ 70368744177664) : checkC t (lCmd t) = cmdS t := by
  cases h : cmdS t with
  | some c =>
    obtain ⟨e, h1, h2⟩ := (cmdS_iff ht).1 h
    have := lCmd_app h1 h2
    rw [← e] at this
    rw [this]
    exact if_pos ⟨rfl, h2, e.symm⟩
  | none =>
    cases h2 : lCmd t with
    | none => rfl
    | some y =>
      refine if_neg ?_
      rintro ⟨h3, h4, h5⟩
      have := (cmdS_iff ht).2 ⟨h5.symm, lCmd_ok h2, h4⟩
      rw [h] at this; cases this
/-- A passenger, read loosely; its id is not in these bytes. -/
def lPax (t : Bytes) (id : Int) : PaxM × RB := tk (wInts 6 ⟨t, false⟩) fun l s => tk (rbNum s) fun n s => tk (wText s) fun x s =>
  (⟨id, l.getD 0 0, l.getD 1 0, (bitsN 4 n).getD 0 false, (bitsN 4 n).getD 1 false, (bitsN 4 n).getD 2 false, (bitsN 4 n).getD 3 false, l.getD 2 0, l.getD 3 0, l.getD 4 0, l.getD 5 0, (parseO x).1, (parseO x).2.1⟩,
   ⟨s.t, s.bad || (!(parseO x).2.2 && decide (x ≠ []))⟩)
/-- A reply, read loosely. -/
def lReply (t : Bytes) : ReplyM × RB := tk (rbInt ⟨t, false⟩) fun code s => tk (rbNum s) fun n s => match rdI n (s, []) with
  | (s, ids) => tk (wInts 4 s) fun x s => tk (rbNum s) fun o s => tk (rbInt s) fun id s => match lPax s.t id with
    | (p, z) => tk (wText ⟨z.t, s.bad || z.bad⟩) fun tx s => (⟨code, ids, x.getD 0 0, x.getD 1 0, x.getD 2 0, x.getD 3 0, decide (o = 1), p, tx⟩, s)
theorem parseO_ok (x : Bytes) : i64ok (parseO x).1 ∧ (parseO x).2.1 < 256 := by
  unfold parseO
  cases h : parseB x with
  | none => exact ⟨ok0, by decide⟩
  | some z =>
    obtain ⟨n, c⟩ := z
    obtain ⟨h1, -⟩ := parseB_some h
    obtain ⟨a1, a2, a3, a4⟩ := seatOk_iff.1 h1
    exact ⟨⟨by simp only; omega, by simp only; omega⟩, by simp only; omega⟩
theorem lPax_ok (t : Bytes) {id : Int} (h : i64ok id) : (lPax t id).1.ok :=
  ⟨h, getD_ok (wInts_ok 6 _) 0, getD_ok (wInts_ok 6 _) 1, getD_ok (wInts_ok 6 _) 2, getD_ok (wInts_ok 6 _) 3, getD_ok (wInts_ok 6 _) 4, getD_ok (wInts_ok 6 _) 5, (parseO_ok _).1, (parseO_ok _).2⟩
theorem rdI_oks : ∀ (n : Nat) (s : RB) (l : List Int), (∀ z ∈ l, i64ok z) → ∀ z ∈ (rdI n (s, l)).2, i64ok z
  | 0, s, l, h => h
  | n + 1, s, l, h => by
    unfold rdI
    split
    · exact h
    · refine rdI_oks n _ _ fun f hf => ?_
      rcases List.mem_append.1 hf with hf | hf
      · exact h f hf
      · rw [List.mem_singleton] at hf; subst hf; exact rbInt_ok' s
theorem lReply_ok (t : Bytes) : (lReply t).1.ok :=
  ⟨rbInt_ok' _, rdI_oks _ _ _ (by nofun), getD_ok (wInts_ok 4 _) 0, getD_ok (wInts_ok 4 _) 1, getD_ok (wInts_ok 4 _) 2, getD_ok (wInts_ok 4 _) 3, lPax_ok _ (rbInt_ok' _)⟩
theorem all6 {a b c d e f : Int} (ha : i64ok a) (hb : i64ok b) (hc : i64ok c) (hd : i64ok d) (he : i64ok e) (hf : i64ok f) : [a, b, c, d, e, f].length = 6 ∧ ∀ z ∈ [a, b, c, d, e, f], i64ok z := ⟨rfl, by
  intro z hz
  rcases List.mem_cons.1 hz with rfl | hz
  · exact ha
  rcases List.mem_cons.1 hz with rfl | hz
  · exact hb
  · exact (all4 hc hd he hf).2 z hz⟩
theorem parseO_seat {n : Int} {c : Nat} (h : seatGood n c = true) : (parseO (seatB n c)).1 = n ∧ (parseO (seatB n c)).2.1 = c ∧ (!(parseO (seatB n c)).2.2 && decide (seatB n c ≠ [])) = false := by
  have hs := seatS_of h
  unfold seatS at hs
  split at hs
  · next he =>
    simp only [Option.some.injEq, Prod.mk.injEq] at hs
    rw [he]
    exact ⟨by rw [← hs.1]; rfl, by rw [← hs.2]; rfl, rfl⟩
  · unfold parseO
    rw [hs]
    exact ⟨rfl, rfl, rfl⟩
theorem lPax_app (p : PaxM) (r : Bytes) (hp : p.ok) (hs : seatGood p.num p.c = true) : lPax (intsB [p.flight, p.cab, p.cls, p.status, p.tick, p.pass] ++ (numB (marksN [p.fit, p.infant, p.vol, p.stb]) ++ (textB (seatB p.num p.c) ++ r))) p.id = (p, ⟨r, false⟩) := by
  have hm := marksN_lt [p.fit, p.infant, p.vol, p.stb]
  have hl := seatB_len p.num p.c
  obtain ⟨e1, e2, e3⟩ := parseO_seat hs
  unfold lPax tk
  rw [(wInts_codec 6).app _ _ (all6 hp.flight hp.cab hp.cls hp.status hp.tick hp.pass)]
  simp only
  rw [rbNum_app _ _ (by simp only [List.length_cons, List.length_nil] at hm; omega)]
  simp only
  rw [show bitsN 4 (marksN [p.fit, p.infant, p.vol, p.stb]) = _ from bits_marksN [p.fit, p.infant, p.vol, p.stb], wText_codec.app _ _ (by omega)]
  simp only
  rw [e1, e2, e3]
  rfl
theorem lReply_app {a : ReplyM} (ha : a.ok) (hR : RightR a) (hl : (replyB a).length ≤ 70368744177664) : lReply (replyB a) = (a, ⟨[], false⟩) := by
  have hp := ha.pax
  have hm := intsB_min a.ids
  have hmk := marksN_lt [a.over]
  have htx : (textB a.text).length = (numB a.text.length).length + a.text.length := by simp [textB]
  have e : replyB a = intB a.code ++ (numB a.ids.length ++ (intsB a.ids ++ (intsB [a.n0, a.n1, a.n2, a.n3] ++ (numB (marksN [a.over]) ++ (intB a.pax.id ++ (intsB [a.pax.flight, a.pax.cab, a.pax.cls, a.pax.status, a.pax.tick, a.pax.pass] ++ (numB (marksN [a.pax.fit, a.pax.infant, a.pax.vol, a.pax.stb]) ++ (textB (seatB a.pax.num a.pax.c) ++ (textB a.text ++ []))))))))) := by
    unfold replyB paxI intsB
    simp only [List.map_cons, List.map_nil, List.flatten_cons, List.flatten_nil, List.append_nil, List.append_assoc]
  unfold replyB at hl
  simp only [List.length_append] at hl
  rw [e]
  unfold lReply
  unfold tk
  rw [rbInt_app _ _ ha.code]
  simp only
  rw [rbNum_app _ _ (by omega)]
  simp only
  rw [rdI_app _ _ _ ha.ids]
  simp only
  rw [(wInts_codec 4).app _ _ (all4 ha.n0 ha.n1 ha.n2 ha.n3)]
  simp only
  rw [rbNum_app _ _ (by simp only [List.length_singleton] at hmk; omega)]
  simp only
  rw [rbInt_app _ _ hp.id]
  simp only
  rw [lPax_app _ _ hp hR]
  simp only
  rw [show (⟨textB a.text ++ [], false || false⟩ : RB) = ⟨textB a.text ++ [], false⟩ from rfl, wText_codec.app _ _ (by omega)]
  have e2 : decide (marksN [a.over] = 1) = a.over := by cases a.over <;> rfl
  rw [e2]
  rfl
def checkR (t : Bytes) (y : ReplyM × RB) : Option ReplyM := if y.2.bad = false ∧ seatGood y.1.pax.num y.1.pax.c = true ∧ replyB y.1 = t then some y.1 else none
theorem check_reply {t : Bytes} (ht : t.length ≤ 70368744177664) : checkR t (lReply t) = replyS t := by
  cases h : replyS t with
  | some a =>
    obtain ⟨e, h1, h2⟩ := (replyS_iff ht).1 h
    have := lReply_app h1 h2 (by rw [← e]; exact ht)
    rw [← e] at this
    rw [this]
    exact if_pos ⟨rfl, h2, e.symm⟩
  | none =>
    refine if_neg ?_
    rintro ⟨h3, h4, h5⟩
    have := (replyS_iff ht).2 ⟨h5.symm, lReply_ok t, h4⟩
    rw [h] at this; cases this
end Go.Proofs.YthpmmfapolcaiaaDoor

/- Rows of pointers into a block: cells set one by one. -/
namespace Go.Eng
open Go
def setL : List Value → List Nat → List Value → List Value
  | xs, o :: os, v :: vs => setL (xs.set o v) os vs
  | xs, _, _ => xs
theorem setL_snoc : ∀ (os : List Nat) (vs xs : List Value) (o : Nat) (v : Value), os.length = vs.length → setL xs (os ++ [o]) (vs ++ [v]) = (setL xs os vs).set o v
  | [], [], _, _, _, _ => rfl
  | _ :: os, _ :: vs, xs, o, v, h => setL_snoc os vs _ o v (by simpa using h)
theorem setL_len : ∀ (os : List Nat) (vs xs : List Value), (setL xs os vs).length = xs.length
  | [], vs, _ => by cases vs <;> simp [setL]
  | _ :: _, [], _ => by simp [setL]
  | o :: os, v :: vs, xs => by unfold setL; rw [setL_len os vs, List.length_set]
abbrev ptrTo (b o : Nat) : Value := .pointer (some ⟨b, o, none⟩)
end Go.Eng

/- Blocks apart. -/
namespace Go.Eng
open Go
theorem nodup_chunk {w0 w : World} {T : List Nat} {b : Nat} {o : Obj} {H L : Heap} {F : Heap → Heap} (hS : St w0 T ((b, o) :: H) w) [hc : Chunk H L F] : b ∉ keys L := by
  obtain ⟨A, B, h1, -⟩ := hc.at_
  have := hS.nd
  rw [h1] at this
  simp only [keys, List.map_cons, List.map_append, List.nodup_cons] at this
  intro h
  exact this.1 (List.mem_append_right _ (List.mem_append_left _ h))
/-- A row of the call's own, from a place on. -/
theorem St.arrAt {w0 w : World} {T : List Nat} {H : Heap} {b off : Nat} {l xs : List Value} {t : TypeId} {fz : Nat × Nat} {F : Obj → Heap} (hS : St w0 T H w) [Slot H b (.cells ⟨l⟩ t fz) F]
    (hx : (l.drop off).take xs.length = xs) {T' : List Nat} (hb : b ∉ T') : Arr w T' (some ⟨b, off, none⟩) xs := fun j x hj => ⟨b, off, rfl, hb, by
      rw [← hx, List.getElem?_take] at hj
      split at hj
      · rw [List.getElem?_drop] at hj; exact hS.cell hj
      · cases hj⟩
theorem nodup_last {w0 w : World} {T : List Nat} {x : Nat × Obj} {L : Heap} {b : Nat} {o : Obj} (hS : St w0 T (x :: (L ++ [(b, o)])) w) : b ∉ keys L := by
  have := hS.nd
  rw [keys, List.map_cons, List.nodup_cons, List.map_append, List.nodup_append] at this
  intro h
  exact this.2.2.2 _ h _ (by simp) rfl
end Go.Eng

/- Package wire: the reader. -/
namespace Go.Proofs.YthpmmfapolcaiaaDoor
open Go Go.Eng Go.Proofs
abbrev wrdC (rb : Nat) (bad : Bool) : Obj := .cells ⟨[ptr rb, .bool bad]⟩ T_wire_reader (0, 0)
/-- The reader's memory. -/
abbrev rdH (rr rb : Nat) (s : RB) : Heap := [(rr, wrdC rb s.bad), (rb, rdC s.t)]
theorem rbInt_len' (s : RB) : (rbInt s).2.t.length ≤ s.t.length := intO_len s.t
theorem wInts_succ : ∀ (k : Nat) (s : RB), wInts (k + 1) s = ((wInts k s).1 ++ [(rbInt (wInts k s).2).1], (rbInt (wInts k s).2).2)
  | 0, s => rfl
  | k + 1, s => by
    have := wInts_succ k (rbInt s).2
    show ((rbInt s).1 :: (wInts (k + 1) (rbInt s).2).1, (wInts (k + 1) (rbInt s).2).2) = _
    rw [this]; rfl
theorem wInts_tlen : ∀ (k : Nat) (s : RB), (wInts k s).2.t.length ≤ s.t.length
  | 0, _ => Nat.le_refl _
  | k + 1, s => Nat.le_trans (wInts_tlen k _) (rbInt_len' s)
theorem wNum_tlen (most : Nat) (s : RB) : (wNum most s).2.t.length ≤ s.t.length := by
  have := numO_len s.t
  unfold wNum; split <;> exact this
theorem wText_tlen (s : RB) : (wText s).2.t.length ≤ s.t.length := by
  have := textO_len s.t
  unfold wText; simp only; omega
theorem textO_err (t : Bytes) : (textO t).2.1 = 0 ∨ (textO t).2.1 = 1 := by
  unfold textO
  cases textR t with
  | none => exact .inr rfl
  | some x => exact .inl rfl
set_option maxHeartbeats 1000000 in
theorem rnum_spec {w : World} {rr rb most : Nat} {s : RB} (hh : Holds (rdH rr rb s) w) (ht : s.t.length ≤ 70368744177664) (hm : most < 18446744073709551616) :
    Cl Tryd.prog f_wire_reader_num [ptr rr, .int .u64 most] w fun v w' => v = .int .u64 (wNum most s).1 ∧ St w [rr, rb] (rdH rr rb (wNum most s).2) w' := by
  have hS : St w [rr, rb] [(rr, wrdC rb s.bad), (rb, rdC s.t)] w := St.enter hh
  refine en_wire_reader_num rfl ?_
  repeat (first | refine SemW.run tblOk ?_ | refine jA (by omega) ?_ | refine jB (by omega) ?_ | refine jC (by omega) ?_ | refine jD (by omega) ?_ | refine jE rfl ?_ | refine jF (by omega) ?_ | (refine jG ?_; first | with_reducible (first | refine jH ?_ | refine jI ?_ | refine jJ ?_ | refine jK ?_ | refine jL ?_) | refine jM (by omega) ?_ | refine jN (by omega) ?_ | with_reducible refine jM rfl ?_ | refine jM (by assumption) ?_ | refine jN (by assumption) ?_ | refine jM (by decide) ?_ | refine jN (by decide) ?_) | refine jF (ptr_ok tblOk rfl rfl) ?_ | refine jO (fun _ => by kernel_rfl) ?_ | refine jF (by decide) ?_ | refine hS.ld rfl ?_ | refine hS.ldn rfl ?_ | (refine hS.st rfl rfl ?_; intro _ hS))
  refine Cl.mono (RNum_spec (hS.part (L := [(rb, rdC s.t)])) ht) ?_
  rintro _ w1 ⟨rfl, hS'⟩
  have hS := hS.call (L := [(rb, rdC s.t)]) hS'
  have hS : St w [rr, rb] [(rr, .cells ⟨[ptr rb, .bool s.bad]⟩ T_wire_reader (0, 0)), (rb, .cells ⟨[Str (numO s.t).2.2]⟩ T_pack_Reader (0, 0))] w1 := hS
  obtain ⟨t, bad⟩ := s
  have he := numO_err t
  have hlt := numO_lt t
  unfold wNum
  simp only at hS he hlt ⊢
  generalize numO t = x at hS he hlt ⊢
  obtain ⟨n, er, r⟩ := x
  simp only at hS he hlt ⊢
  rcases he with rfl | rfl
  · by_cases hn : most < n
    · rw [if_pos (.inr hn)]
      repeat (first | refine SemW.run tblOk ?_ | refine jA (by omega) ?_ | refine jB (by omega) ?_ | refine jC (by omega) ?_ | refine jD (by omega) ?_ | refine jE rfl ?_ | refine jF (by omega) ?_ | (refine jG ?_; first | with_reducible (first | refine jH ?_ | refine jI ?_ | refine jJ ?_ | refine jK ?_ | refine jL ?_) | refine jM (by omega) ?_ | refine jN (by omega) ?_ | with_reducible refine jM rfl ?_ | refine jM (by assumption) ?_ | refine jN (by assumption) ?_ | refine jM (by decide) ?_ | refine jN (by decide) ?_) | refine jF (ptr_ok tblOk rfl rfl) ?_ | refine jO (fun _ => by kernel_rfl) ?_ | refine jF (by decide) ?_ | refine hS.ld rfl ?_ | refine hS.ldn rfl ?_ | (refine hS.st rfl rfl ?_; intro _ hS))
      exact ⟨rfl, hS⟩
    · rw [if_neg (by rintro (h | h); (· exact h rfl); exact hn h)]
      repeat (first | refine SemW.run tblOk ?_ | refine jA (by omega) ?_ | refine jB (by omega) ?_ | refine jC (by omega) ?_ | refine jD (by omega) ?_ | refine jE rfl ?_ | refine jF (by omega) ?_ | (refine jG ?_; first | with_reducible (first | refine jH ?_ | refine jI ?_ | refine jJ ?_ | refine jK ?_ | refine jL ?_) | refine jM (by omega) ?_ | refine jN (by omega) ?_ | with_reducible refine jM rfl ?_ | refine jM (by assumption) ?_ | refine jN (by assumption) ?_ | refine jM (by decide) ?_ | refine jN (by decide) ?_) | refine jF (ptr_ok tblOk rfl rfl) ?_ | refine jO (fun _ => by kernel_rfl) ?_ | refine jF (by decide) ?_ | refine hS.ld rfl ?_ | refine hS.ldn rfl ?_ | (refine hS.st rfl rfl ?_; intro _ hS))
      exact ⟨rfl, hS⟩
  · rw [if_pos (.inl (by decide))]
    repeat (first | refine SemW.run tblOk ?_ | refine jA (by omega) ?_ | refine jB (by omega) ?_ | refine jC (by omega) ?_ | refine jD (by omega) ?_ | refine jE rfl ?_ | refine jF (by omega) ?_ | (refine jG ?_; first | with_reducible (first | refine jH ?_ | refine jI ?_ | refine jJ ?_ | refine jK ?_ | refine jL ?_) | refine jM (by omega) ?_ | refine jN (by omega) ?_ | with_reducible refine jM rfl ?_ | refine jM (by assumption) ?_ | refine jN (by assumption) ?_ | refine jM (by decide) ?_ | refine jN (by decide) ?_) | refine jF (ptr_ok tblOk rfl rfl) ?_ | refine jO (fun _ => by kernel_rfl) ?_ | refine jF (by decide) ?_ | refine hS.ld rfl ?_ | refine hS.ldn rfl ?_ | (refine hS.st rfl rfl ?_; intro _ hS))
    exact ⟨rfl, hS⟩
/-- The block that is read into, and the reader's memory. -/
abbrev tgH (b : Nat) (xs : List Value) (ty : TypeId) (rr rb : Nat) (s : RB) : Heap := (b, .cells ⟨xs⟩ ty (0, 0)) :: rdH rr rb s
set_option maxHeartbeats 2000000 in
theorem rint_spec {w : World} {b rr rb : Nat} {xs : List Value} {ty : TypeId} {s : RB} (hh : Holds (tgH b xs ty rr rb s) w) (ht : s.t.length ≤ 70368744177664) {a : Option Addr} {cap : Nat} {offs : List Nat} (ha : Arr w [b, rr, rb] a (offs.map fun o => ptrTo b o)) (ho : ∀ o ∈ offs, o < xs.length) (hol : offs.length ≤ 1024) :
    Cl Tryd.prog f_wire_reader_int [ptr rr, .slice a offs.length cap] w fun _ w' => St w [b, rr, rb] (tgH b (setL xs offs ((wInts offs.length s).1.map intV)) ty rr rb (wInts offs.length s).2) w' := by
  have hS : St w [b, rr, rb] [(b, .cells ⟨xs⟩ ty (0, 0)), (rr, wrdC rb s.bad), (rb, rdC s.t)] w := St.enter hh
  refine en_wire_reader_int rfl ?_
  repeat (first | refine SemW.run tblOk ?_ | refine jA (by omega) ?_ | refine jB (by omega) ?_ | refine jC (by omega) ?_ | refine jD (by omega) ?_ | refine jE rfl ?_ | refine jF (by omega) ?_ | (refine jG ?_; first | with_reducible (first | refine jH ?_ | refine jI ?_ | refine jJ ?_ | refine jK ?_ | refine jL ?_) | refine jM (by omega) ?_ | refine jN (by omega) ?_ | with_reducible refine jM rfl ?_ | refine jM (by assumption) ?_ | refine jN (by assumption) ?_ | refine jM (by decide) ?_ | refine jN (by decide) ?_) | refine jF (ptr_ok tblOk rfl rfl) ?_ | refine jO (fun _ => by kernel_rfl) ?_ | refine jF (by decide) ?_)
  refine SemW.loop (fun k : Nat => [(0, ptr rr), (8, .slice a offs.length cap), (9, .int .i64 offs.length), (10, .int .i64 k)])
    (fun k w' => k ≤ offs.length ∧ St w [b, rr, rb] (tgH b (setL xs (offs.take k) ((wInts k s).1.map intV)) ty rr rb (wInts k s).2) w') (fun k => offs.length - k) 0
    ⟨rfl, rfl, rfl, rfl, trivial⟩ ⟨Nat.zero_le _, hS⟩ ?_
  clear hS
  rintro k w2 ⟨hk, hS⟩
  by_cases hkl : k < offs.length
  · obtain ⟨b', off', rfl, hbT, hck⟩ := ha.get (j := k) (by simp; omega)
    simp only [List.getElem_map] at hck
    have hsucc := wInts_succ k s
    have htl := wInts_tlen k s
    have hwl := wInts_len k s
    have hox := ho offs[k] (List.getElem_mem hkl)
    have hset := setL_snoc (offs.take k) ((wInts k s).1.map intV) xs offs[k] (intV (rbInt (wInts k s).2).1) (by rw [List.length_take, List.length_map, hwl]; omega)
    rw [← List.take_succ_eq_append_getElem hkl] at hset
    have hsl := setL_len (offs.take k) ((wInts k s).1.map intV) xs
    have hfin : tgH b (setL xs (offs.take (k + 1)) ((wInts (k + 1) s).1.map intV)) ty rr rb (wInts (k + 1) s).2 = tgH b ((setL xs (offs.take k) ((wInts k s).1.map intV)).set offs[k] (intV (rbInt (wInts k s).2).1)) ty rr rb (rbInt (wInts k s).2).2 := by
      rw [hsucc, ← hset]; simp
    generalize setL xs (offs.take k) ((wInts k s).1.map intV) = ys at hS hfin hsl
    generalize (wInts k s).2 = s1 at hS hfin htl
    clear hset hsucc
    generalize offs[k] = o at hck hox hfin
    repeat (first | refine SemW.run tblOk ?_ | refine jA (by omega) ?_ | refine jB (by omega) ?_ | refine jC (by omega) ?_ | refine jD (by omega) ?_ | refine jE rfl ?_ | refine jF (by omega) ?_ | (refine jG ?_; first | with_reducible (first | refine jH ?_ | refine jI ?_ | refine jJ ?_ | refine jK ?_ | refine jL ?_) | refine jM (by omega) ?_ | refine jN (by omega) ?_ | with_reducible refine jM rfl ?_ | refine jM (by assumption) ?_ | refine jN (by assumption) ?_ | refine jM (by decide) ?_ | refine jN (by decide) ?_) | refine jF (ptr_ok tblOk rfl rfl) ?_ | refine jO (fun _ => by kernel_rfl) ?_ | refine jF (by decide) ?_)
    refine hS.ldOld hbT (by simpa using hck) ?_
    repeat (first | refine SemW.run tblOk ?_ | refine jA (by omega) ?_ | refine jB (by omega) ?_ | refine jC (by omega) ?_ | refine jD (by omega) ?_ | refine jE rfl ?_ | refine jF (by omega) ?_ | (refine jG ?_; first | with_reducible (first | refine jH ?_ | refine jI ?_ | refine jJ ?_ | refine jK ?_ | refine jL ?_) | refine jM (by omega) ?_ | refine jN (by omega) ?_ | with_reducible refine jM rfl ?_ | refine jM (by assumption) ?_ | refine jN (by assumption) ?_ | refine jM (by decide) ?_ | refine jN (by decide) ?_) | refine jF (ptr_ok tblOk rfl rfl) ?_ | refine jO (fun _ => by kernel_rfl) ?_ | refine jF (by decide) ?_ | refine hS.ld rfl ?_ | refine hS.ldn rfl ?_ | (refine hS.st rfl rfl ?_; intro _ hS))
    refine Cl.mono (RInt_spec (hS.part (L := [(rb, rdC s1.t)])) (by omega)) ?_
    rintro _ w3 ⟨rfl, hS'⟩
    have hS := hS.call (L := [(rb, rdC s1.t)]) hS'
    have hS : St w [b, rr, rb] [(b, .cells ⟨ys⟩ ty (0, 0)), (rr, .cells ⟨[ptr rb, .bool s1.bad]⟩ T_wire_reader (0, 0)), (rb, .cells ⟨[Str (intO s1.t).2.2]⟩ T_pack_Reader (0, 0))] w3 := hS
    obtain ⟨t1, bd⟩ := s1
    have he := intO_err t1
    unfold rbInt at hfin
    simp only at hS he hfin ⊢
    generalize intO t1 = x at hS he hfin ⊢
    obtain ⟨z, er, r⟩ := x
    simp only at hS he hfin ⊢
    repeat (first | refine SemW.run tblOk ?_ | refine jA (by omega) ?_ | refine jB (by omega) ?_ | refine jC (by omega) ?_ | refine jD (by omega) ?_ | refine jE rfl ?_ | refine jF (by omega) ?_ | (refine jG ?_; first | with_reducible (first | refine jH ?_ | refine jI ?_ | refine jJ ?_ | refine jK ?_ | refine jL ?_) | refine jM (by omega) ?_ | refine jN (by omega) ?_ | with_reducible refine jM rfl ?_ | refine jM (by assumption) ?_ | refine jN (by assumption) ?_ | refine jM (by decide) ?_ | refine jN (by decide) ?_) | refine jF (ptr_ok tblOk rfl rfl) ?_ | refine jO (fun _ => by kernel_rfl) ?_ | refine jF (by decide) ?_ | refine hS.ld rfl ?_ | refine hS.ldn rfl ?_ | (refine hS.st rfl rfl ?_; intro _ hS))
    refine hS.stI rfl (by omega) ?_
    intro w4 hS
    have hS : St w [b, rr, rb] [(b, .cells ⟨ys.set o (intV z)⟩ ty (0, 0)), (rr, .cells ⟨[ptr rb, .bool bd]⟩ T_wire_reader (0, 0)), (rb, .cells ⟨[Str r]⟩ T_pack_Reader (0, 0))] w4 := hS
    cases bd with
    | true =>
      repeat (first | refine SemW.run tblOk ?_ | refine jA (by omega) ?_ | refine jB (by omega) ?_ | refine jC (by omega) ?_ | refine jD (by omega) ?_ | refine jE rfl ?_ | refine jF (by omega) ?_ | (refine jG ?_; first | with_reducible (first | refine jH ?_ | refine jI ?_ | refine jJ ?_ | refine jK ?_ | refine jL ?_) | refine jM (by omega) ?_ | refine jN (by omega) ?_ | with_reducible refine jM rfl ?_ | refine jM (by assumption) ?_ | refine jN (by assumption) ?_ | refine jM (by decide) ?_ | refine jN (by decide) ?_) | refine jF (ptr_ok tblOk rfl rfl) ?_ | refine jO (fun _ => by kernel_rfl) ?_ | refine jF (by decide) ?_ | refine hS.ld rfl ?_ | refine hS.ldn rfl ?_ | (refine hS.st rfl rfl ?_; intro _ hS))
      exact ⟨k + 1, ⟨rfl, rfl, rfl, rfl, trivial⟩, ⟨by omega, by rw [hfin]; exact hS⟩, by omega⟩
    | false =>
      rcases he with rfl | rfl
      · repeat (first | refine SemW.run tblOk ?_ | refine jA (by omega) ?_ | refine jB (by omega) ?_ | refine jC (by omega) ?_ | refine jD (by omega) ?_ | refine jE rfl ?_ | refine jF (by omega) ?_ | (refine jG ?_; first | with_reducible (first | refine jH ?_ | refine jI ?_ | refine jJ ?_ | refine jK ?_ | refine jL ?_) | refine jM (by omega) ?_ | refine jN (by omega) ?_ | with_reducible refine jM rfl ?_ | refine jM (by assumption) ?_ | refine jN (by assumption) ?_ | refine jM (by decide) ?_ | refine jN (by decide) ?_) | refine jF (ptr_ok tblOk rfl rfl) ?_ | refine jO (fun _ => by kernel_rfl) ?_ | refine jF (by decide) ?_ | refine hS.ld rfl ?_ | refine hS.ldn rfl ?_ | (refine hS.st rfl rfl ?_; intro _ hS))
        exact ⟨k + 1, ⟨rfl, rfl, rfl, rfl, trivial⟩, ⟨by omega, by rw [hfin]; exact hS⟩, by omega⟩
      · repeat (first | refine SemW.run tblOk ?_ | refine jA (by omega) ?_ | refine jB (by omega) ?_ | refine jC (by omega) ?_ | refine jD (by omega) ?_ | refine jE rfl ?_ | refine jF (by omega) ?_ | (refine jG ?_; first | with_reducible (first | refine jH ?_ | refine jI ?_ | refine jJ ?_ | refine jK ?_ | refine jL ?_) | refine jM (by omega) ?_ | refine jN (by omega) ?_ | with_reducible refine jM rfl ?_ | refine jM (by assumption) ?_ | refine jN (by assumption) ?_ | refine jM (by decide) ?_ | refine jN (by decide) ?_) | refine jF (ptr_ok tblOk rfl rfl) ?_ | refine jO (fun _ => by kernel_rfl) ?_ | refine jF (by decide) ?_ | refine hS.ld rfl ?_ | refine hS.ldn rfl ?_ | (refine hS.st rfl rfl ?_; intro _ hS))
        exact ⟨k + 1, ⟨rfl, rfl, rfl, rfl, trivial⟩, ⟨by omega, by rw [hfin]; exact hS⟩, by omega⟩
  · have hke : k = offs.length := by omega
    subst hke
    rw [List.take_length] at hS
    repeat (first | refine SemW.run tblOk ?_ | refine jA (by omega) ?_ | refine jB (by omega) ?_ | refine jC (by omega) ?_ | refine jD (by omega) ?_ | refine jE rfl ?_ | refine jF (by omega) ?_ | (refine jG ?_; first | with_reducible (first | refine jH ?_ | refine jI ?_ | refine jJ ?_ | refine jK ?_ | refine jL ?_) | refine jM (by omega) ?_ | refine jN (by omega) ?_ | with_reducible refine jM rfl ?_ | refine jM (by assumption) ?_ | refine jN (by assumption) ?_ | refine jM (by decide) ?_ | refine jN (by decide) ?_) | refine jF (ptr_ok tblOk rfl rfl) ?_ | refine jO (fun _ => by kernel_rfl) ?_ | refine jF (by decide) ?_)
    exact hS
theorem bitsN_get : ∀ (k n i : Nat) (h : i < (bitsN k n).length), (bitsN k n)[i] = decide (n / 2 ^ i % 2 = 1)
  | 0, _, _, h => by simp [bitsN] at h
  | k + 1, n, 0, _ => by simp [bitsN]
  | k + 1, n, i + 1, h => by
    have := bitsN_get k (n / 2) i (by simpa [bitsN] using h)
    simp only [bitsN, List.getElem_cons_succ]
    rw [this, Nat.div_div_eq_div_mul, Nat.pow_succ, Nat.mul_comm]
theorem shr_u (n i : Nat) (hi : i < 64) : (n : Int).fdiv (2 ^ (min ((i : Int)).toNat IntKind.u64.bits)) = ((n / 2 ^ i : Nat) : Int) := by
  have e : min ((i : Int)).toNat IntKind.u64.bits = i := by show min i 64 = i; omega
  rw [e]
  have h2 : ((2 : Int) ^ i) = ((2 ^ i : Nat) : Int) := by simp
  rw [h2, Int.fdiv_eq_ediv_of_nonneg _ (Int.natCast_nonneg _)]
  exact (Int.natCast_ediv n (2 ^ i)).symm
theorem and_one (n : Nat) (h : n < 18446744073709551616) : andI .u64 (n : Int) 1 = ((n % 2 : Nat) : Int) := by
  have e := andU .u64 rfl n 1 (show n < 18446744073709551616 by omega) (show 1 < 18446744073709551616 by omega)
  rw [Nat.and_one_is_mod] at e
  exact e
set_option maxHeartbeats 2000000 in
theorem rmarks_spec {w : World} {b rr rb : Nat} {xs : List Value} {ty : TypeId} {s : RB} (hh : Holds (tgH b xs ty rr rb s) w) (ht : s.t.length ≤ 70368744177664) {a : Option Addr} {cap : Nat} {offs : List Nat} (ha : Arr w [b, rr, rb] a (offs.map fun o => ptrTo b o)) (ho : ∀ o ∈ offs, o < xs.length) (hol : offs.length ≤ 8) :
    Cl Tryd.prog f_wire_reader_marks [ptr rr, .slice a offs.length cap] w fun _ w' => St w [b, rr, rb] (tgH b (setL xs offs ((wMarks offs.length s).1.map Value.bool)) ty rr rb (wMarks offs.length s).2) w' := by
  have hS : St w [b, rr, rb] [(b, .cells ⟨xs⟩ ty (0, 0)), (rr, wrdC rb s.bad), (rb, rdC s.t)] w := St.enter hh
  have hp8 : 2 ^ offs.length ≤ 2 ^ 8 := Nat.pow_le_pow_right (by omega) hol
  have hp0 : 0 < 2 ^ offs.length := Nat.two_pow_pos _
  have e1 : IntKind.u64.wrap (1 * 2 ^ (min ((offs.length : Int)).toNat IntKind.u64.bits)) = ((2 ^ offs.length : Nat) : Int) := by
    rw [show min ((offs.length : Int)).toNat IntKind.u64.bits = offs.length by show min _ 64 = _; omega]
    have e2 : (1 : Int) * 2 ^ offs.length = ((2 ^ offs.length : Nat) : Int) := by simp
    have e3 : 2 ^ offs.length % 2 ^ IntKind.u64.bits = 2 ^ offs.length := Nat.mod_eq_of_lt (show 2 ^ offs.length < 18446744073709551616 by omega)
    rw [e2, wrapU .u64 rfl, e3]
  refine en_wire_reader_marks rfl ?_
  repeat (first | refine SemW.run tblOk ?_ | refine jA (by omega) ?_ | refine jB (by omega) ?_ | refine jC (by omega) ?_ | refine jD (by omega) ?_ | refine jE rfl ?_ | refine jF (by omega) ?_ | (refine jG ?_; first | with_reducible (first | refine jH ?_ | refine jI ?_ | refine jJ ?_ | refine jK ?_ | refine jL ?_) | refine jM (by omega) ?_ | refine jN (by omega) ?_ | with_reducible refine jM rfl ?_ | refine jM (by assumption) ?_ | refine jN (by assumption) ?_ | refine jM (by decide) ?_ | refine jN (by decide) ?_) | refine jF (ptr_ok tblOk rfl rfl) ?_ | refine jO (fun _ => by kernel_rfl) ?_ | refine jF (by decide) ?_)
  rw [e1]
  repeat (first | refine SemW.run tblOk ?_ | refine jA (by omega) ?_ | refine jB (by omega) ?_ | refine jC (by omega) ?_ | refine jD (by omega) ?_ | refine jE rfl ?_ | refine jF (by omega) ?_ | (refine jG ?_; first | with_reducible (first | refine jH ?_ | refine jI ?_ | refine jJ ?_ | refine jK ?_ | refine jL ?_) | refine jM (by omega) ?_ | refine jN (by omega) ?_ | with_reducible refine jM rfl ?_ | refine jM (by assumption) ?_ | refine jN (by assumption) ?_ | refine jM (by decide) ?_ | refine jN (by decide) ?_) | refine jF (ptr_ok tblOk rfl rfl) ?_ | refine jO (fun _ => by kernel_rfl) ?_ | refine jF (by decide) ?_)
  rw [show ((2 ^ offs.length : Nat) : Int) - 1 = ((2 ^ offs.length - 1 : Nat) : Int) by omega]
  refine Cl.mono (rnum_spec (s := s) (most := 2 ^ offs.length - 1) (hS.part (L := rdH rr rb s)) ht (by omega)) ?_
  rintro _ w1 ⟨rfl, hS'⟩
  have hS := hS.call (L := rdH rr rb s) hS'
  have hS : St w [b, rr, rb] (tgH b xs ty rr rb (wNum (2 ^ offs.length - 1) s).2) w1 := hS
  have hwn : (wNum (2 ^ offs.length - 1) s).1 ≤ 2 ^ offs.length - 1 := by
    unfold wNum
    split
    · exact Nat.zero_le _
    · next h => exact Nat.le_of_not_lt (not_or.1 h).2
  unfold wMarks
  generalize wNum (2 ^ offs.length - 1) s = y at hS hwn ⊢
  obtain ⟨n, s1⟩ := y
  simp only at hS hwn ⊢
  have hbl := bitsN_len offs.length n
  repeat (first | refine SemW.run tblOk ?_ | refine jA (by omega) ?_ | refine jB (by omega) ?_ | refine jC (by omega) ?_ | refine jD (by omega) ?_ | refine jE rfl ?_ | refine jF (by omega) ?_ | (refine jG ?_; first | with_reducible (first | refine jH ?_ | refine jI ?_ | refine jJ ?_ | refine jK ?_ | refine jL ?_) | refine jM (by omega) ?_ | refine jN (by omega) ?_ | with_reducible refine jM rfl ?_ | refine jM (by assumption) ?_ | refine jN (by assumption) ?_ | refine jM (by decide) ?_ | refine jN (by decide) ?_) | refine jF (ptr_ok tblOk rfl rfl) ?_ | refine jO (fun _ => by kernel_rfl) ?_ | refine jF (by decide) ?_)
  refine SemW.loop (fun k : Nat => [(4, .int .u64 n), (14, .slice a offs.length cap), (15, .int .i64 offs.length), (16, .int .i64 k)])
    (fun k w' => k ≤ offs.length ∧ St w [b, rr, rb] (tgH b (setL xs (offs.take k) (((bitsN offs.length n).take k).map Value.bool)) ty rr rb s1) w') (fun k => offs.length - k) 0
    ⟨rfl, rfl, rfl, rfl, trivial⟩ ⟨Nat.zero_le _, hS⟩ ?_
  clear hS
  rintro k w2 ⟨hk, hS⟩
  by_cases hkl : k < offs.length
  · obtain ⟨b', off', rfl, hbT, hck⟩ := ha.get (j := k) (by simp; omega)
    simp only [List.getElem_map] at hck
    have hox := ho offs[k] (List.getElem_mem hkl)
    have hkb : k < (bitsN offs.length n).length := by omega
    have hbg := bitsN_get offs.length n k hkb
    have hset := setL_snoc (offs.take k) (((bitsN offs.length n).take k).map Value.bool) xs offs[k] (Value.bool (bitsN offs.length n)[k]) (by rw [List.length_take, List.length_map, List.length_take]; omega)
    rw [← List.take_succ_eq_append_getElem hkl] at hset
    have hmt : ((bitsN offs.length n).take k).map Value.bool ++ [Value.bool (bitsN offs.length n)[k]] = ((bitsN offs.length n).take (k + 1)).map Value.bool := by
      rw [List.take_succ_eq_append_getElem hkb, List.map_append]; rfl
    rw [hmt, hbg] at hset
    have hsl := setL_len (offs.take k) (((bitsN offs.length n).take k).map Value.bool) xs
    generalize setL xs (offs.take k) (((bitsN offs.length n).take k).map Value.bool) = ys at hS hset hsl
    have hmod : n / 2 ^ k % 2 = 0 ∨ n / 2 ^ k % 2 = 1 := by omega
    have hsh := shr_u n k (by omega)
    have hdl : n / 2 ^ k ≤ n := Nat.div_le_self _ _
    have had := and_one (n / 2 ^ k) (by omega)
    generalize offs[k] = o at hck hox hset
    generalize n / 2 ^ k = q at hset hmod hsh hdl had
    repeat (first | refine SemW.run tblOk ?_ | refine jA (by omega) ?_ | refine jB (by omega) ?_ | refine jC (by omega) ?_ | refine jD (by omega) ?_ | refine jE rfl ?_ | refine jF (by omega) ?_ | (refine jG ?_; first | with_reducible (first | refine jH ?_ | refine jI ?_ | refine jJ ?_ | refine jK ?_ | refine jL ?_) | refine jM (by omega) ?_ | refine jN (by omega) ?_ | with_reducible refine jM rfl ?_ | refine jM (by assumption) ?_ | refine jN (by assumption) ?_ | refine jM (by decide) ?_ | refine jN (by decide) ?_) | refine jF (ptr_ok tblOk rfl rfl) ?_ | refine jO (fun _ => by kernel_rfl) ?_ | refine jF (by decide) ?_)
    refine hS.ldOld hbT (by simpa using hck) ?_
    repeat (first | refine SemW.run tblOk ?_ | refine jA (by omega) ?_ | refine jB (by omega) ?_ | refine jC (by omega) ?_ | refine jD (by omega) ?_ | refine jE rfl ?_ | refine jF (by omega) ?_ | (refine jG ?_; first | with_reducible (first | refine jH ?_ | refine jI ?_ | refine jJ ?_ | refine jK ?_ | refine jL ?_) | refine jM (by omega) ?_ | refine jN (by omega) ?_ | with_reducible refine jM rfl ?_ | refine jM (by assumption) ?_ | refine jN (by assumption) ?_ | refine jM (by decide) ?_ | refine jN (by decide) ?_) | refine jF (ptr_ok tblOk rfl rfl) ?_ | refine jO (fun _ => by kernel_rfl) ?_ | refine jF (by decide) ?_)
    rw [hsh]
    have hbe : decide (((q % 2 : Nat) : Int) = 1) = decide (q % 2 = 1) := by
      rw [decide_eq_decide]; omega
    refine hS.stI rfl (by omega) ?_
    intro w4 hS
    rw [had, hbe] at hS
    have hS : St w [b, rr, rb] (tgH b (ys.set o (Value.bool (decide (q % 2 = 1)))) ty rr rb s1) w4 := hS
    repeat (first | refine SemW.run tblOk ?_ | refine jA (by omega) ?_ | refine jB (by omega) ?_ | refine jC (by omega) ?_ | refine jD (by omega) ?_ | refine jE rfl ?_ | refine jF (by omega) ?_ | (refine jG ?_; first | with_reducible (first | refine jH ?_ | refine jI ?_ | refine jJ ?_ | refine jK ?_ | refine jL ?_) | refine jM (by omega) ?_ | refine jN (by omega) ?_ | with_reducible refine jM rfl ?_ | refine jM (by assumption) ?_ | refine jN (by assumption) ?_ | refine jM (by decide) ?_ | refine jN (by decide) ?_) | refine jF (ptr_ok tblOk rfl rfl) ?_ | refine jO (fun _ => by kernel_rfl) ?_ | refine jF (by decide) ?_)
    exact ⟨k + 1, ⟨rfl, rfl, rfl, rfl, trivial⟩, ⟨by omega, by rw [hset]; exact hS⟩, by omega⟩
  · have hke : k = offs.length := by omega
    have e2 : (bitsN offs.length n).take offs.length = bitsN offs.length n := List.take_of_length_le (by omega)
    subst hke
    rw [List.take_length, e2] at hS
    repeat (first | refine SemW.run tblOk ?_ | refine jA (by omega) ?_ | refine jB (by omega) ?_ | refine jC (by omega) ?_ | refine jD (by omega) ?_ | refine jE rfl ?_ | refine jF (by omega) ?_ | (refine jG ?_; first | with_reducible (first | refine jH ?_ | refine jI ?_ | refine jJ ?_ | refine jK ?_ | refine jL ?_) | refine jM (by omega) ?_ | refine jN (by omega) ?_ | with_reducible refine jM rfl ?_ | refine jM (by assumption) ?_ | refine jN (by assumption) ?_ | refine jM (by decide) ?_ | refine jN (by decide) ?_) | refine jF (ptr_ok tblOk rfl rfl) ?_ | refine jO (fun _ => by kernel_rfl) ?_ | refine jF (by decide) ?_)
    exact hS
set_option maxHeartbeats 1000000 in
theorem rtext_spec {w : World} {b rr rb o : Nat} {xs : List Value} {ty : TypeId} {s : RB} (hh : Holds (tgH b xs ty rr rb s) w) (ht : s.t.length ≤ 70368744177664) (ho : o < xs.length) :
    Cl Tryd.prog f_wire_reader_text [ptr rr, ptrTo b o] w fun _ w' => St w [b, rr, rb] (tgH b (xs.set o (Str (wText s).1)) ty rr rb (wText s).2) w' := by
  have hS : St w [b, rr, rb] [(b, .cells ⟨xs⟩ ty (0, 0)), (rr, wrdC rb s.bad), (rb, rdC s.t)] w := St.enter hh
  refine en_wire_reader_text rfl ?_
  repeat (first | refine SemW.run tblOk ?_ | refine jA (by omega) ?_ | refine jB (by omega) ?_ | refine jC (by omega) ?_ | refine jD (by omega) ?_ | refine jE rfl ?_ | refine jF (by omega) ?_ | (refine jG ?_; first | with_reducible (first | refine jH ?_ | refine jI ?_ | refine jJ ?_ | refine jK ?_ | refine jL ?_) | refine jM (by omega) ?_ | refine jN (by omega) ?_ | with_reducible refine jM rfl ?_ | refine jM (by assumption) ?_ | refine jN (by assumption) ?_ | refine jM (by decide) ?_ | refine jN (by decide) ?_) | refine jF (ptr_ok tblOk rfl rfl) ?_ | refine jO (fun _ => by kernel_rfl) ?_ | refine jF (by decide) ?_ | refine hS.ld rfl ?_ | refine hS.ldn rfl ?_ | (refine hS.st rfl rfl ?_; intro _ hS))
  refine Cl.mono (RText_spec (hS.part (L := [(rb, rdC s.t)])) ht) ?_
  rintro _ w1 ⟨rfl, hS'⟩
  have hS := hS.call (L := [(rb, rdC s.t)]) hS'
  have hS : St w [b, rr, rb] [(b, .cells ⟨xs⟩ ty (0, 0)), (rr, .cells ⟨[ptr rb, .bool s.bad]⟩ T_wire_reader (0, 0)), (rb, .cells ⟨[Str (textO s.t).2.2]⟩ T_pack_Reader (0, 0))] w1 := hS
  obtain ⟨t, bad⟩ := s
  have he := textO_err t
  unfold wText
  simp only at hS he ⊢
  generalize textO t = x at hS he ⊢
  obtain ⟨z, er, r⟩ := x
  simp only at hS he ⊢
  repeat (first | refine SemW.run tblOk ?_ | refine jA (by omega) ?_ | refine jB (by omega) ?_ | refine jC (by omega) ?_ | refine jD (by omega) ?_ | refine jE rfl ?_ | refine jF (by omega) ?_ | (refine jG ?_; first | with_reducible (first | refine jH ?_ | refine jI ?_ | refine jJ ?_ | refine jK ?_ | refine jL ?_) | refine jM (by omega) ?_ | refine jN (by omega) ?_ | with_reducible refine jM rfl ?_ | refine jM (by assumption) ?_ | refine jN (by assumption) ?_ | refine jM (by decide) ?_ | refine jN (by decide) ?_) | refine jF (ptr_ok tblOk rfl rfl) ?_ | refine jO (fun _ => by kernel_rfl) ?_ | refine jF (by decide) ?_ | refine hS.ld rfl ?_ | refine hS.ldn rfl ?_ | (refine hS.st rfl rfl ?_; intro _ hS))
  refine hS.stI rfl ho ?_
  intro w2 hS
  have hS : St w [b, rr, rb] [(b, .cells ⟨xs.set o (Str z)⟩ ty (0, 0)), (rr, .cells ⟨[ptr rb, .bool bad]⟩ T_wire_reader (0, 0)), (rb, .cells ⟨[Str r]⟩ T_pack_Reader (0, 0))] w2 := hS
  cases bad with
  | true =>
    repeat (first | refine SemW.run tblOk ?_ | refine jA (by omega) ?_ | refine jB (by omega) ?_ | refine jC (by omega) ?_ | refine jD (by omega) ?_ | refine jE rfl ?_ | refine jF (by omega) ?_ | (refine jG ?_; first | with_reducible (first | refine jH ?_ | refine jI ?_ | refine jJ ?_ | refine jK ?_ | refine jL ?_) | refine jM (by omega) ?_ | refine jN (by omega) ?_ | with_reducible refine jM rfl ?_ | refine jM (by assumption) ?_ | refine jN (by assumption) ?_ | refine jM (by decide) ?_ | refine jN (by decide) ?_) | refine jF (ptr_ok tblOk rfl rfl) ?_ | refine jO (fun _ => by kernel_rfl) ?_ | refine jF (by decide) ?_ | refine hS.ld rfl ?_ | refine hS.ldn rfl ?_ | (refine hS.st rfl rfl ?_; intro _ hS))
    exact hS
  | false =>
    rcases he with rfl | rfl
    · repeat (first | refine SemW.run tblOk ?_ | refine jA (by omega) ?_ | refine jB (by omega) ?_ | refine jC (by omega) ?_ | refine jD (by omega) ?_ | refine jE rfl ?_ | refine jF (by omega) ?_ | (refine jG ?_; first | with_reducible (first | refine jH ?_ | refine jI ?_ | refine jJ ?_ | refine jK ?_ | refine jL ?_) | refine jM (by omega) ?_ | refine jN (by omega) ?_ | with_reducible refine jM rfl ?_ | refine jM (by assumption) ?_ | refine jN (by assumption) ?_ | refine jM (by decide) ?_ | refine jN (by decide) ?_) | refine jF (ptr_ok tblOk rfl rfl) ?_ | refine jO (fun _ => by kernel_rfl) ?_ | refine jF (by decide) ?_ | refine hS.ld rfl ?_ | refine hS.ldn rfl ?_ | (refine hS.st rfl rfl ?_; intro _ hS))
      exact hS
    · repeat (first | refine SemW.run tblOk ?_ | refine jA (by omega) ?_ | refine jB (by omega) ?_ | refine jC (by omega) ?_ | refine jD (by omega) ?_ | refine jE rfl ?_ | refine jF (by omega) ?_ | (refine jG ?_; first | with_reducible (first | refine jH ?_ | refine jI ?_ | refine jJ ?_ | refine jK ?_ | refine jL ?_) | refine jM (by omega) ?_ | refine jN (by omega) ?_ | with_reducible refine jM rfl ?_ | refine jM (by assumption) ?_ | refine jN (by assumption) ?_ | refine jM (by decide) ?_ | refine jN (by decide) ?_) | refine jF (ptr_ok tblOk rfl rfl) ?_ | refine jO (fun _ => by kernel_rfl) ?_ | refine jF (by decide) ?_ | refine hS.ld rfl ?_ | refine hS.ldn rfl ?_ | (refine hS.st rfl rfl ?_; intro _ hS))
      exact hS
set_option maxHeartbeats 1000000 in
theorem rletter_spec {w : World} {b rr rb o : Nat} {xs : List Value} {ty : TypeId} {s : RB} (hh : Holds (tgH b xs ty rr rb s) w) (ht : s.t.length ≤ 70368744177664) (ho : o < xs.length) :
    Cl Tryd.prog f_wire_reader_letter [ptr rr, ptrTo b o] w fun _ w' => St w [b, rr, rb] (tgH b (xs.set o (.int .u8 (wNum 255 s).1)) ty rr rb (wNum 255 s).2) w' := by
  have hS : St w [b, rr, rb] [(b, .cells ⟨xs⟩ ty (0, 0)), (rr, wrdC rb s.bad), (rb, rdC s.t)] w := St.enter hh
  refine en_wire_reader_letter rfl ?_
  repeat (first | refine SemW.run tblOk ?_ | refine jA (by omega) ?_ | refine jB (by omega) ?_ | refine jC (by omega) ?_ | refine jD (by omega) ?_ | refine jE rfl ?_ | refine jF (by omega) ?_ | (refine jG ?_; first | with_reducible (first | refine jH ?_ | refine jI ?_ | refine jJ ?_ | refine jK ?_ | refine jL ?_) | refine jM (by omega) ?_ | refine jN (by omega) ?_ | with_reducible refine jM rfl ?_ | refine jM (by assumption) ?_ | refine jN (by assumption) ?_ | refine jM (by decide) ?_ | refine jN (by decide) ?_) | refine jF (ptr_ok tblOk rfl rfl) ?_ | refine jO (fun _ => by kernel_rfl) ?_ | refine jF (by decide) ?_)
  refine Cl.mono (rnum_spec (s := s) (most := 255) (hS.part (L := rdH rr rb s)) ht (by omega)) ?_
  rintro _ w1 ⟨rfl, hS'⟩
  have hS := hS.call (L := rdH rr rb s) hS'
  have hS : St w [b, rr, rb] (tgH b xs ty rr rb (wNum 255 s).2) w1 := hS
  have hwn : (wNum 255 s).1 ≤ 255 := by
    unfold wNum
    split
    · exact Nat.zero_le _
    · next h => exact Nat.le_of_not_lt (not_or.1 h).2
  generalize wNum 255 s = y at hS hwn ⊢
  obtain ⟨n, s1⟩ := y
  simp only at hS hwn ⊢
  repeat (first | refine SemW.run tblOk ?_ | refine jA (by omega) ?_ | refine jB (by omega) ?_ | refine jC (by omega) ?_ | refine jD (by omega) ?_ | refine jE rfl ?_ | refine jF (by omega) ?_ | (refine jG ?_; first | with_reducible (first | refine jH ?_ | refine jI ?_ | refine jJ ?_ | refine jK ?_ | refine jL ?_) | refine jM (by omega) ?_ | refine jN (by omega) ?_ | with_reducible refine jM rfl ?_ | refine jM (by assumption) ?_ | refine jN (by assumption) ?_ | refine jM (by decide) ?_ | refine jN (by decide) ?_) | refine jF (ptr_ok tblOk rfl rfl) ?_ | refine jO (fun _ => by kernel_rfl) ?_ | refine jF (by decide) ?_)
  refine hS.stI rfl ho ?_
  intro w2 hS
  repeat (first | refine SemW.run tblOk ?_ | refine jA (by omega) ?_ | refine jB (by omega) ?_ | refine jC (by omega) ?_ | refine jD (by omega) ?_ | refine jE rfl ?_ | refine jF (by omega) ?_ | (refine jG ?_; first | with_reducible (first | refine jH ?_ | refine jI ?_ | refine jJ ?_ | refine jK ?_ | refine jL ?_) | refine jM (by omega) ?_ | refine jN (by omega) ?_ | with_reducible refine jM rfl ?_ | refine jM (by assumption) ?_ | refine jN (by assumption) ?_ | refine jM (by decide) ?_ | refine jN (by decide) ?_) | refine jF (ptr_ok tblOk rfl rfl) ?_ | refine jO (fun _ => by kernel_rfl) ?_ | refine jF (by decide) ?_)
  exact hS
theorem RLeft_spec {w : World} {b : Nat} {t : Bytes} (hh : Holds [(b, rdC t)] w) (ht : t.length ≤ 70368744177664) : Cl Tryd.prog f_pack_Reader_Left [ptr b] w fun v w' => v = .int .i64 t.length ∧ St w [] [] w' := by
  have hS : St w [b] [(b, .cells ⟨[Str t]⟩ T_pack_Reader (0, 0))] w := St.enter hh
  have hS0 := St.start w
  refine en_pack_Reader_Left rfl ?_
  repeat (first | refine SemW.run tblOk ?_ | refine jA (by omega) ?_ | refine jB (by omega) ?_ | refine jC (by omega) ?_ | refine jD (by omega) ?_ | refine jE rfl ?_ | refine jF (by omega) ?_ | (refine jG ?_; first | with_reducible (first | refine jH ?_ | refine jI ?_ | refine jJ ?_ | refine jK ?_ | refine jL ?_) | refine jM (by omega) ?_ | refine jN (by omega) ?_ | with_reducible refine jM rfl ?_ | refine jM (by assumption) ?_ | refine jN (by assumption) ?_ | refine jM (by decide) ?_ | refine jN (by decide) ?_) | refine jF (ptr_ok tblOk rfl rfl) ?_ | refine jO (fun _ => by kernel_rfl) ?_ | refine jF (by decide) ?_ | refine hS.ld rfl ?_ | refine hS.ldn rfl ?_ | (refine hS.st rfl rfl ?_; intro _ hS))
  exact ⟨rfl, hS0⟩
theorem Holds.part' {L H : Heap} {F : Heap → Heap} {w : World} (hh : Holds H w) [hc : Chunk H L F] : Holds L w := (St.enter hh).part (L := L)
set_option maxHeartbeats 1000000 in
theorem rcount_spec {w : World} {rr rb : Nat} {s : RB} (hh : Holds (rdH rr rb s) w) (ht : s.t.length ≤ 70368744177664) (z : Int) :
    Cl Tryd.prog f_wire_reader_count [ptr rr, .int .i64 z] w fun v w' => v = .int .i64 (wNum s.t.length s).1 ∧ St w [rr, rb] (rdH rr rb (wNum s.t.length s).2) w' := by
  have hS : St w [rr, rb] [(rr, wrdC rb s.bad), (rb, rdC s.t)] w := St.enter hh
  refine en_wire_reader_count rfl ?_
  repeat (first | refine SemW.run tblOk ?_ | refine jA (by omega) ?_ | refine jB (by omega) ?_ | refine jC (by omega) ?_ | refine jD (by omega) ?_ | refine jE rfl ?_ | refine jF (by omega) ?_ | (refine jG ?_; first | with_reducible (first | refine jH ?_ | refine jI ?_ | refine jJ ?_ | refine jK ?_ | refine jL ?_) | refine jM (by omega) ?_ | refine jN (by omega) ?_ | with_reducible refine jM rfl ?_ | refine jM (by assumption) ?_ | refine jN (by assumption) ?_ | refine jM (by decide) ?_ | refine jN (by decide) ?_) | refine jF (ptr_ok tblOk rfl rfl) ?_ | refine jO (fun _ => by kernel_rfl) ?_ | refine jF (by decide) ?_ | refine hS.ld rfl ?_ | refine hS.ldn rfl ?_ | (refine hS.st rfl rfl ?_; intro _ hS))
  refine Cl.mono (RLeft_spec (hS.part (L := [(rb, rdC s.t)])) ht) ?_
  rintro _ w1 ⟨rfl, hS'⟩
  have hS := hS.call0 hS'
  repeat (first | refine SemW.run tblOk ?_ | refine jA (by omega) ?_ | refine jB (by omega) ?_ | refine jC (by omega) ?_ | refine jD (by omega) ?_ | refine jE rfl ?_ | refine jF (by omega) ?_ | (refine jG ?_; first | with_reducible (first | refine jH ?_ | refine jI ?_ | refine jJ ?_ | refine jK ?_ | refine jL ?_) | refine jM (by omega) ?_ | refine jN (by omega) ?_ | with_reducible refine jM rfl ?_ | refine jM (by assumption) ?_ | refine jN (by assumption) ?_ | refine jM (by decide) ?_ | refine jN (by decide) ?_) | refine jF (ptr_ok tblOk rfl rfl) ?_ | refine jO (fun _ => by kernel_rfl) ?_ | refine jF (by decide) ?_ | refine hS.ld rfl ?_ | refine hS.ldn rfl ?_ | (refine hS.st rfl rfl ?_; intro _ hS))
  refine Cl.mono (rnum_spec (s := s) (most := s.t.length) (hS.part (L := rdH rr rb s)) ht (by omega)) ?_
  rintro _ w2 ⟨rfl, hS'⟩
  have hS := hS.call (L := rdH rr rb s) hS'
  have hwn : (wNum s.t.length s).1 ≤ s.t.length := by
    unfold wNum
    split
    · exact Nat.zero_le _
    · next h => exact Nat.le_of_not_lt (not_or.1 h).2
  repeat (first | refine SemW.run tblOk ?_ | refine jA (by omega) ?_ | refine jB (by omega) ?_ | refine jC (by omega) ?_ | refine jD (by omega) ?_ | refine jE rfl ?_ | refine jF (by omega) ?_ | (refine jG ?_; first | with_reducible (first | refine jH ?_ | refine jI ?_ | refine jJ ?_ | refine jK ?_ | refine jL ?_) | refine jM (by omega) ?_ | refine jN (by omega) ?_ | with_reducible refine jM rfl ?_ | refine jM (by assumption) ?_ | refine jN (by assumption) ?_ | refine jM (by decide) ?_ | refine jN (by decide) ?_) | refine jF (ptr_ok tblOk rfl rfl) ?_ | refine jO (fun _ => by kernel_rfl) ?_ | refine jF (by decide) ?_)
  exact ⟨rfl, hS⟩
end Go.Proofs.YthpmmfapolcaiaaDoor

/- Plain: numbers read one by one into a row. -/
namespace Go.Proofs.YthpmmfapolcaiaaDoor
open Go Go.Eng Go.Proofs
structure LI where
  k : Nat
  l : List Int
  s : RB
theorem wInts_step {n : Nat} {l : List Int} {s : RB} {X : List Int × RB} (hl : l.length < n) (hx : (l ++ (wInts (n - l.length) s).1, (wInts (n - l.length) s).2) = X) :
    ((l ++ [(rbInt s).1]) ++ (wInts (n - (l ++ [(rbInt s).1]).length) (rbInt s).2).1, (wInts (n - (l ++ [(rbInt s).1]).length) (rbInt s).2).2) = X := by
  rw [show n - l.length = (n - (l ++ [(rbInt s).1]).length) + 1 by simp; omega] at hx
  rw [← hx]
  simp [wInts]
theorem set_row (l : List Int) (x : Int) (n : Nat) (h : l.length < n) : (l.map intV ++ List.replicate (n - l.length) (intV 0)).set l.length (intV x) = (l ++ [x]).map intV ++ List.replicate (n - (l ++ [x]).length) (intV 0) := by
  rw [List.set_append_right _ _ (by simp)]
  rw [show n - l.length = (n - (l ++ [x]).length) + 1 by simp; omega, List.replicate_succ]
  simp
theorem rbInt_t (s : RB) : (rbInt s).2.t.length ≤ s.t.length := intO_len s.t
theorem rbNum_t (s : RB) : (rbNum s).2.t.length ≤ s.t.length := numO_len s.t
theorem lst6' {l : List Int} (h : l.length = 6) : ∃ a b c d e f, l = [a, b, c, d, e, f] := ⟨_, _, _, _, _, _, lst6 0 h⟩
theorem bits4 (n : Nat) : bitsN 4 n = [decide (n % 2 = 1), decide (n / 2 % 2 = 1), decide (n / 4 % 2 = 1), decide (n / 8 % 2 = 1)] := by
  simp only [bitsN, Nat.div_div_eq_div_mul]
theorem dmod2 (a : Nat) : decide (((a : Nat) : Int).tmod 2 = 1) = decide (a % 2 = 1) := by
  have : ((a : Int)).tmod 2 = ((a % 2 : Nat) : Int) := tmodN a 2
  rw [this, decide_eq_decide]
  omega
theorem bits4' (n : Nat) : bitsN 4 n = [decide (((n : Nat) : Int).tmod 2 = 1), decide (((n / 2 : Nat) : Int).tmod 2 = 1), decide (((n / 4 : Nat) : Int).tmod 2 = 1), decide (((n / 8 : Nat) : Int).tmod 2 = 1)] := by
  rw [dmod2, dmod2, dmod2, dmod2]; exact bits4 n
end Go.Proofs.YthpmmfapolcaiaaDoor

/- A string's bytes appended to an own slice anywhere in its block; []byte(s). -/
namespace Go.Eng
open Go
section
variable {P : Program} {T0 : Tbl}
/-- append(v, s...) of a string's bytes, to a slice anywhere in its block. -/
theorem St.appOStr (hT : TOk P T0) {t u e ty : TypeId} {i iu ie : TI} (hi : tf T0 t = some i) (hk : i.k = .slice e 1) (hiu : tf T0 u = some iu) (hku : iu.k = .str) (hie : tf T0 e = some ie)
    (hz : ie.zero.cells.size = 1) {w0 w : World} {T : List Nat} {H L : Heap} {F : Heap → Heap} (hS : St w0 T H w) {a : Option Addr} {n cap : Nat} {xs : List Value} (hv : VecO e a n cap xs L) [hc : Chunk H L F]
    {s : List UInt8}
    (hlen : (n + s.length) * ie.bytes ≤ 140737488355328) (hlen' : n + s.length ≤ 9223372036854775807) {K : Value → World → Prop}
    (h : ∀ a' cap' L' w', VecO e a' (n + s.length) cap' (xs ++ s.map byteV) L' → St w0 T (F L') w' → K (.slice a' (n + s.length) cap') w') :
    RunG P (Builtin.append_ ⟨[t, u]⟩ ty ⟨[.slice a n cap, Str s]⟩) w K := by
  have hu := und_of hT hiu
  rw [hku] at hu
  obtain ⟨m, hmd⟩ : ∃ m, m = s.length := ⟨_, rfl⟩
  obtain ⟨news, hnews⟩ : ∃ l, l = s.map byteV := ⟨_, rfl⟩
  have hm : news.length = m := by rw [hnews, hmd]; simp
  have h1 : news.all Value.oneCell' = true := by rw [hnews]; simp [byteV, Value.oneCell']
  rw [← hmd] at hlen hlen'
  have h : ∀ a' cap' L' w', VecO e a' (n + m) cap' (xs ++ news) L' → St w0 T (F L') w' → K (.slice a' (n + m) cap') w' := by rw [hmd, hnews]; exact h
  have hlo : (Builtin.lenOf (Str s)).run P w = .ok m w := by rw [hmd]; rfl
  obtain ⟨x, hx0⟩ : ∃ x, x = Str s := ⟨_, rfl⟩
  have ht := und_of hT hi
  rw [hk] at ht
  obtain ⟨ht, hes⟩ := ht
  obtain ⟨inf, hinf, hzz, hs1, hby⟩ := info_of hT hie
  have hsz : inf.size = 1 := by rw [hinf] at hes; simpa using hes
  have hpart : Holds L w := hS.part (L := L)
  have hin := St.enter hpart
  have hsrc : ∀ w', w'.heap = w.heap → (Builtin.firstCells 1 m (Str s)).run P w' = .ok ⟨news⟩ w' := fun w' _ => by
    subst hmd hnews
    show Result.ok _ _ = _
    congr 1
    apply Array.ext'
    simp [ByteArray.data_extract]
    intro a _; rfl
  rw [← hx0] at hsrc hlo ⊢
  have step : ∀ o, St w0 T (F [(w.heap.size, o)]) (w.drew.alloc o) := fun o =>
    hS.call (L := L) (((hin.drew).alloc o).sub (List.Sublist.cons_cons _ (List.nil_sublist _)))
  cases hv with
  | nil =>
    subst hx0 hmd hnews
    exact St.appStr hT hi hk hiu hku hie hz hS Vec.nil hlen hlen' fun a' cap' L' w' h2 h3 => h a' cap' L' w' (VecO.of h2) h3
  | row g pre xs l post n cap fz hf hx hl =>
    have hg : w.heap[g]? = some (.cells ⟨pre ++ (xs ++ (l ++ post))⟩ e fz) := hpart.own _ (List.mem_singleton.2 rfl)
    by_cases hroom : n + m ≤ cap
    · have hst := run_storeCells_fz P g (pre.length + n * 1) e fz news 0 ⟨pre ++ (xs ++ (l ++ post))⟩ w hg (by simp only [List.length_append] at hf; omega) (by simp; omega) (fun v hv => List.all_eq_true.1 h1 v hv)
      simp only [Nat.add_zero] at hst
      have e1 : (pre ++ (xs ++ (l ++ post))).take (pre.length + n * 1) = pre ++ xs := by
        rw [← List.append_assoc, show pre.length + n * 1 = (pre ++ xs).length by simp; omega, List.take_left]
      have e2 : (pre ++ (xs ++ (l ++ post))).drop (pre.length + n * 1 + news.length) = l.drop m ++ post := by
        rw [← List.append_assoc, show pre.length + n * 1 + news.length = (pre ++ xs).length + m by simp; omega, List.drop_append, List.drop_eq_nil_of_le (by omega), List.nil_append,
          show (pre ++ xs).length + m - (pre ++ xs).length = m by omega, List.drop_append_of_le_length (by omega)]
      have e3 : pre ++ xs ++ news ++ (l.drop m ++ post) = pre ++ ((xs ++ news) ++ (l.drop m ++ post)) := by simp
      have hv2 := VecO.row (e := e) g pre (xs ++ news) (l.drop m) post (n + m) cap fz (by simp only [List.length_append, List.length_drop] at hf ⊢; omega) (by simp; omega) (by simp; omega)
      refine RunG.of ?_ (h (some ⟨g, pre.length, none⟩) cap _ (w.setRow g ⟨pre ++ ((xs ++ news) ++ (l.drop m ++ post))⟩) hv2 ?_)
      · simp only [e1, e2] at hst
        rw [← e3]
        simp [Builtin.append_, run_underlying ht, run_underlying hu, sizeOf, typeInfo, hinf, hsz, hlo, hroom, hsrc w rfl, Addr.add_eq]
        rw [show pre.length + n = pre.length + n * 1 by omega, hst]
        simp
      · exact hS.call (L := [(g, .cells ⟨pre ++ (xs ++ (l ++ post))⟩ e fz)]) (hin.setRow (b := g) (l := pre ++ (xs ++ (l ++ post))) (l' := pre ++ ((xs ++ news) ++ (l.drop m ++ post))))
    · have hge := grownCap_ge w (n + m) cap e
      have h3 : ¬ (9223372036854775807 < ((n : Int) + (m : Int))) := by omega
      have h4 : ¬ (281474976710656 < Builtin.nextslicecap (n + m) cap * inf.bytes) := by
        have := growslice_fits (need := n + m) (old := cap) (bytes := inf.bytes) (by omega) (by rw [hby]; exact hlen)
        omega
      have h5 := hsrc w.drew rfl
      have hfo := run_firstCells_some (P := P) w.drew 1 n ⟨g, pre.length, none⟩ n cap xs (by omega) (fun j v hj => by
        rw [Addr.add_eq]
        have hlt : j < xs.length := (List.getElem?_eq_some_iff.1 hj).1
        have hg' : w.drew.heap[g]? = some (.cells ⟨pre ++ (xs ++ (l ++ post))⟩ e fz) := hg
        simp only [World.cell?, hg', Option.isSome_none, Bool.false_eq_true, if_false]
        rw [show (Array.mk (pre ++ (xs ++ (l ++ post))))[pre.length + j]? = (pre ++ (xs ++ (l ++ post)))[pre.length + j]? by simp, List.getElem?_append_right (by omega), show pre.length + j - pre.length = j by omega, List.getElem?_append_left hlt]
        exact hj)
      have hV := VecO.row (e := e) w.heap.size [] (xs ++ news) (Builtin.zeroCells ie.zero.cells (grownCap w (n + m) cap e - (n + m))).toList [] (n + m) (grownCap w (n + m) cap e) (0, 0) (.inl (Nat.zero_le _)) (by simp; omega) (by rw [zeroCells_len, hz]; simp; omega)
      refine RunG.of ?_ (h _ _ _ _ hV (step _))
      simp [Builtin.append_, run_underlying ht, run_underlying hu, sizeOf, typeInfo, zeroValue, hinf, hzz, hsz, hlo, hroom, h3, h4, Question.forced, hfo, h5, newRow, grownCap]
      congr 2
      apply Array.ext'
      simp
end
/-- []byte(s): a slice of the call's own. -/
theorem St.toBytesV {P : Program} {T0 : Tbl} (hT : TOk P T0) {t u e : TypeId} {i iu ie : TI} (hi : tf T0 t = some i) (hk : i.k = .slice e 1) (hiu : tf T0 u = some iu) (hku : iu.k = .str) (hie : tf T0 e = some ie) (hke : ie.k = .int .u8)
    {w0 w : World} {T : List Nat} {H : Heap} (hS : St w0 T H w) {s : List UInt8} {K : Value → World → Prop}
    (h : ∀ a c L w', VecO e a s.length c (s.map byteV) L → St w0 T (L ++ H) w' → K (.slice a s.length c) w') : RunG P (convert u t (Str s)) w K := by
  have h1 := und_of hT hiu; rw [hku] at h1
  have h2 := und_of hT hi; rw [hk] at h2
  have h3 := und_of hT hie; rw [hke] at h3
  have hge := grownCap_ge w s.length 0 e
  have e1 : bytesRow ⟨⟨s⟩⟩ (grownCap w s.length 0 e) = ⟨[] ++ (s.map byteV ++ (List.replicate (grownCap w s.length 0 e - s.length) (.int .u8 0) ++ []))⟩ := by
    apply Array.ext'
    simp [bytesRow]; rfl
  have hrun : (convert u t (Str s)).run P w = .ok (.slice (some ⟨w.heap.size, 0, none⟩) s.length (grownCap w s.length 0 e))
      (w.drew.alloc (.cells (bytesRow ⟨⟨s⟩⟩ (grownCap w s.length 0 e)) e ((bytesRow ⟨⟨s⟩⟩ (grownCap w s.length 0 e)).size, (bytesRow ⟨⟨s⟩⟩ (grownCap w s.length 0 e)).size + 1))) := run_bytes_of_string w u t e ⟨⟨s⟩⟩ h1 h2.1 h3
  have hv := VecO.row (e := e) w.drew.heap.size [] (s.map byteV) (List.replicate (grownCap w s.length 0 e - s.length) (.int .u8 0)) [] s.length (grownCap w s.length 0 e) ((bytesRow ⟨⟨s⟩⟩ (grownCap w s.length 0 e)).size, (bytesRow ⟨⟨s⟩⟩ (grownCap w s.length 0 e)).size + 1)
    (.inr (by rw [e1]; simp)) (by simp) (by simp; omega)
  refine RunG.of hrun (h _ _ _ _ hv ?_)
  have := hS.drew.alloc (.cells (bytesRow ⟨⟨s⟩⟩ (grownCap w s.length 0 e)) e ((bytesRow ⟨⟨s⟩⟩ (grownCap w s.length 0 e)).size, (bytesRow ⟨⟨s⟩⟩ (grownCap w s.length 0 e)).size + 1))
  rw [← e1]
  exact this
end Go.Eng
namespace Go.Proofs.YthpmmfapolcaiaaDoor
open Go Go.Eng Go.Proofs
def be8to (n k : Nat) : Bytes := List.replicate (8 - k) 0 ++ (be8 n).drop (8 - k)
theorem be8to_set (n k : Nat) (hk : k < 8) : ((be8to n k).map byteV).set (7 - k) (byteV (UInt8.ofNat (n / 256 ^ k))) = (be8to n (k + 1)).map byteV := by
  match k, hk with
  | 0, _ => simp [be8to, be8]
  | 1, _ => simp [be8to, be8]
  | 2, _ => simp [be8to, be8]
  | 3, _ => simp [be8to, be8]
  | 4, _ => simp [be8to, be8]
  | 5, _ => simp [be8to, be8]
  | 6, _ => simp [be8to, be8]
  | 7, _ => simp [be8to, be8]
theorem be8to_len (n k : Nat) (hk : k ≤ 8) : (be8to n k).length = 8 := by
  unfold be8to be8
  rw [List.length_append, List.length_replicate, List.length_drop]
  show 8 - k + (8 - (8 - k)) = 8
  omega
end Go.Proofs.YthpmmfapolcaiaaDoor

/- The document's reader (tarmacref01). -/
namespace Go.Proofs.YthpmmfapolcaiaaDoor
open Go Go.Eng Go.Proofs
/-! The reader. -/
abbrev rdC' (t : Bytes) : Obj := .cells ⟨[Str t]⟩ T_tarmacref01_Reader (0, 0)
theorem numJ_ref {t : Bytes} {k n : Nat} (h : numJ t k n) (hk : k < t.length) (hk9 : k ≤ 9) (h9 : ¬ (k = 9 ∧ 1 < t[k].toNat)) (h128 : t[k].toNat < 128) :
    (numB (n + t[k].toNat % 128 * 2 ^ (7 * k)) = t.take (k + 1) → numO t = (n + t[k].toNat % 128 * 2 ^ (7 * k), 0, t.drop (k + 1))) ∧
    (¬ numB (n + t[k].toNat % 128 * 2 ^ (7 * k)) = t.take (k + 1) → numO t = (0, 1, t)) := by
  by_cases hz : 0 < k ∧ t[k].toNat = 0
  · have hf := numJ_fail h (by rw [numS_at hk, if_pos (by omega)])
    refine ⟨fun he => ?_, fun _ => hf⟩
    exfalso
    have hlt : n + t[k].toNat % 128 * 2 ^ (7 * k) < 18446744073709551616 := (low7 n t[k].toNat k h.2.2.1 (t[k]).toNat_lt hk9 (by omega)).2
    have := (numR_iff t (n + t[k].toNat % 128 * 2 ^ (7 * k)) (t.drop (k + 1))).2 ⟨by rw [he, List.take_append_drop], hlt⟩
    unfold numO at hf
    rw [this] at hf
    simp at hf
  · have hd := numJ_done h hk (by omega) h128
    refine ⟨fun _ => hd, fun hne => ?_⟩
    exfalso
    apply hne
    have hr : numR t = some (n + t[k].toNat % 128 * 2 ^ (7 * k), t.drop (k + 1)) := by
      unfold numO at hd
      cases hr : numR t with
      | none => rw [hr] at hd; simp at hd
      | some x =>
        obtain ⟨m, r⟩ := x
        rw [hr] at hd
        simp only [Prod.mk.injEq, true_and] at hd
        rw [hd.1, hd.2]
    have h1 := ((numR_iff t _ _).1 hr).1
    have h2 : (numB (n + t[k].toNat % 128 * 2 ^ (7 * k))).length = k + 1 := by
      have := congrArg List.length h1
      rw [List.length_append, List.length_drop] at this; omega
    have h3 : (numB (n + t[k].toNat % 128 * 2 ^ (7 * k)) ++ t.drop (k + 1)).take (k + 1) = numB (n + t[k].toNat % 128 * 2 ^ (7 * k)) := List.take_left' h2
    rw [← h1] at h3
    exact h3.symm
set_option maxHeartbeats 8000000 in
set_option maxRecDepth 4000 in
theorem RNumE_spec {w : World} {b : Nat} {t : Bytes} (hh : Holds [(b, rdC' t)] w) (ht : t.length ≤ 70368744177664) :
    Cl Tryd.prog f_tarmacref01_Reader_Num [ptr b] w fun v w' => v = .tuple ⟨[.int .u64 (numO t).1, .int .i64 (numO t).2.1]⟩ ∧ St w [b] [(b, rdC' (numO t).2.2)] w' := by
  have hS : St w [b] [(b, rdC' t)] w := St.enter hh
  refine en_tarmacref01_Reader_Num rfl ?_
  repeat (first | refine SemW.run tblOk ?_ | refine jA (by omega) ?_ | refine jB (by omega) ?_ | refine jC (by omega) ?_ | refine jD (by omega) ?_ | refine jE rfl ?_ | refine jF (by omega) ?_ | (refine jG ?_; first | with_reducible (first | refine jH ?_ | refine jI ?_ | refine jJ ?_ | refine jK ?_ | refine jL ?_) | refine jM (by omega) ?_ | refine jN (by omega) ?_ | with_reducible refine jM rfl ?_ | refine jM (by assumption) ?_ | refine jN (by assumption) ?_ | refine jM (by decide) ?_ | refine jN (by decide) ?_) | refine jF (ptr_ok tblOk rfl rfl) ?_ | refine jO (fun _ => by kernel_rfl) ?_ | refine jF (by decide) ?_)
  refine SemW.loop (fun x : Nat × Nat => [(0, ptr b), (4, .int .u64 x.2), (5, .int .i64 x.1)])
    (fun x w' => numJ t x.1 x.2 ∧ St w [b] [(b, rdC' t)] w') (fun x => 10 - x.1) (0, 0)
    ⟨rfl, rfl, rfl, trivial⟩ ⟨⟨by omega, by omega, by simp, by simp only [List.drop_zero]; cases numS 0 t <;> simp⟩, hS⟩ ?_
  rintro ⟨k, n⟩ w1 ⟨hJ, hS⟩
  simp only at hJ hS ⊢
  have hkk := hJ.1
  have hkl := hJ.2.1
  by_cases hk : k < 10 ∧ k < t.length
  rotate_left
  · have hfail := numJ_fail hJ (numS_stop hk)
    by_cases hk10 : k < 10
    · repeat (first | refine SemW.run tblOk ?_ | refine jA (by omega) ?_ | refine jB (by omega) ?_ | refine jC (by omega) ?_ | refine jD (by omega) ?_ | refine jE rfl ?_ | refine jF (by omega) ?_ | (refine jG ?_; first | with_reducible (first | refine jH ?_ | refine jI ?_ | refine jJ ?_ | refine jK ?_ | refine jL ?_) | refine jM (by omega) ?_ | refine jN (by omega) ?_ | with_reducible refine jM rfl ?_ | refine jM (by assumption) ?_ | refine jN (by assumption) ?_ | refine jM (by decide) ?_ | refine jN (by decide) ?_) | refine jF (ptr_ok tblOk rfl rfl) ?_ | refine jO (fun _ => by kernel_rfl) ?_ | refine jF (by decide) ?_ | refine hS.ld rfl ?_ | refine hS.ldn rfl ?_ | (refine hS.st rfl rfl ?_; intro _ hS))
      rw [hfail]
      exact ⟨rfl, hS⟩
    · repeat (first | refine SemW.run tblOk ?_ | refine jA (by omega) ?_ | refine jB (by omega) ?_ | refine jC (by omega) ?_ | refine jD (by omega) ?_ | refine jE rfl ?_ | refine jF (by omega) ?_ | (refine jG ?_; first | with_reducible (first | refine jH ?_ | refine jI ?_ | refine jJ ?_ | refine jK ?_ | refine jL ?_) | refine jM (by omega) ?_ | refine jN (by omega) ?_ | with_reducible refine jM rfl ?_ | refine jM (by assumption) ?_ | refine jN (by assumption) ?_ | refine jM (by decide) ?_ | refine jN (by decide) ?_) | refine jF (ptr_ok tblOk rfl rfl) ?_ | refine jO (fun _ => by kernel_rfl) ?_ | refine jF (by decide) ?_ | refine hS.ld rfl ?_ | refine hS.ldn rfl ?_ | (refine hS.st rfl rfl ?_; intro _ hS))
      rw [hfail]
      exact ⟨rfl, hS⟩
  obtain ⟨hk10, hkt⟩ := hk
  obtain ⟨c, hc⟩ : ∃ c, c = t.getD ((k : Int)).toNat 0 := ⟨_, rfl⟩
  have hct : c = t[k] := by rw [hc]; simp [hkt]
  have hclt := c.toNat_lt
  have ecm : ((c.toNat : Int).tmod 128) = ((c.toNat % 128 : Nat) : Int) := tmodN c.toNat 128
  by_cases hbad : k = 9 ∧ 1 < c.toNat
  · have hfail := numJ_fail hJ (by rw [numS_at hkt, if_pos (by rw [← hct]; omega)])
    obtain ⟨hk9, hc1⟩ := hbad
    repeat (first | refine SemW.run tblOk ?_ | refine jA (by omega) ?_ | refine jB (by omega) ?_ | refine jC (by omega) ?_ | refine jD (by omega) ?_ | refine jE rfl ?_ | refine jF (by omega) ?_ | (refine jG ?_; first | with_reducible (first | refine jH ?_ | refine jI ?_ | refine jJ ?_ | refine jK ?_ | refine jL ?_) | refine jM (by omega) ?_ | refine jN (by omega) ?_ | with_reducible refine jM rfl ?_ | refine jM (by assumption) ?_ | refine jN (by assumption) ?_ | refine jM (by decide) ?_ | refine jN (by decide) ?_) | refine jF (ptr_ok tblOk rfl rfl) ?_ | refine jO (fun _ => by kernel_rfl) ?_ | refine jF (by decide) ?_ | refine hS.ld rfl ?_ | refine hS.ldn rfl ?_ | (refine hS.st rfl rfl ?_; intro _ hS))
    rw [← hc, ecm]
    repeat (first | refine SemW.run tblOk ?_ | refine jA (by omega) ?_ | refine jB (by omega) ?_ | refine jC (by omega) ?_ | refine jD (by omega) ?_ | refine jE rfl ?_ | refine jF (by omega) ?_ | (refine jG ?_; first | with_reducible (first | refine jH ?_ | refine jI ?_ | refine jJ ?_ | refine jK ?_ | refine jL ?_) | refine jM (by omega) ?_ | refine jN (by omega) ?_ | with_reducible refine jM rfl ?_ | refine jM (by assumption) ?_ | refine jN (by assumption) ?_ | refine jM (by decide) ?_ | refine jN (by decide) ?_) | refine jF (ptr_ok tblOk rfl rfl) ?_ | refine jO (fun _ => by kernel_rfl) ?_ | refine jF (by decide) ?_ | refine hS.ld rfl ?_ | refine hS.ldn rfl ?_ | (refine hS.st rfl rfl ?_; intro _ hS))
    rw [hfail]
    exact ⟨rfl, hS⟩
  obtain ⟨P, hP⟩ : ∃ P, P = 2 ^ (7 * k) := ⟨_, rfl⟩
  have hl7 := (low7 n c.toNat k hJ.2.2.1 hclt (by omega) (by omega)).2
  rw [← hP] at hl7
  have hPle : P ≤ 2 ^ (7 * 9) := by rw [hP]; exact Nat.pow_le_pow_right (by omega) (by omega)
  have hPle : P ≤ 9223372036854775808 := hPle
  obtain ⟨cp, hcp⟩ : ∃ cp, cp = c.toNat % 128 * P := ⟨_, rfl⟩
  rw [← hcp] at hl7
  have hcpi : ((c.toNat % 128 : Nat) : Int) * (P : Int) = (cp : Int) := by rw [hcp]; simp
  have ek : ((k : Int) + 1).toNat = k + 1 := by omega
  have hwm : IntKind.u64.wrap ((c.toNat % 128 : Nat) : Int) = ((c.toNat % 128 : Nat) : Int) := by
    rw [wrapU .u64 rfl]; congr 1; exact Nat.mod_eq_of_lt (by show _ < 18446744073709551616; omega)
  by_cases hk9 : k = 9
  · repeat (first | refine SemW.run tblOk ?_ | refine jA (by omega) ?_ | refine jB (by omega) ?_ | refine jC (by omega) ?_ | refine jD (by omega) ?_ | refine jE rfl ?_ | refine jF (by omega) ?_ | (refine jG ?_; first | with_reducible (first | refine jH ?_ | refine jI ?_ | refine jJ ?_ | refine jK ?_ | refine jL ?_) | refine jM (by omega) ?_ | refine jN (by omega) ?_ | with_reducible refine jM rfl ?_ | refine jM (by assumption) ?_ | refine jN (by assumption) ?_ | refine jM (by decide) ?_ | refine jN (by decide) ?_) | refine jF (ptr_ok tblOk rfl rfl) ?_ | refine jO (fun _ => by kernel_rfl) ?_ | refine jF (by decide) ?_ | refine hS.ld rfl ?_ | refine hS.ldn rfl ?_ | (refine hS.st rfl rfl ?_; intro _ hS))
    rw [← hc, ecm, hwm]
    repeat (first | refine SemW.run tblOk ?_ | refine jA (by omega) ?_ | refine jB (by omega) ?_ | refine jC (by omega) ?_ | refine jD (by omega) ?_ | refine jE rfl ?_ | refine jF (by omega) ?_ | (refine jG ?_; first | with_reducible (first | refine jH ?_ | refine jI ?_ | refine jJ ?_ | refine jK ?_ | refine jL ?_) | refine jM (by omega) ?_ | refine jN (by omega) ?_ | with_reducible refine jM rfl ?_ | refine jM (by assumption) ?_ | refine jN (by assumption) ?_ | refine jM (by decide) ?_ | refine jN (by decide) ?_) | refine jF (ptr_ok tblOk rfl rfl) ?_ | refine jO (fun _ => by kernel_rfl) ?_ | refine jF (by decide) ?_ | refine hS.ld rfl ?_ | refine hS.ldn rfl ?_ | (refine hS.st rfl rfl ?_; intro _ hS))
    refine SemW.loop (fun i : Nat => [(0, ptr b), (4, .int .u64 n), (5, .int .i64 k), (6, .int .u64 (c.toNat % 128 : Nat)), (7, .int .u64 (2 ^ (7 * i) : Nat)), (8, .int .i64 i)])
      (fun i w' => i ≤ k ∧ St w [b] [(b, rdC' t)] w') (fun i => k - i) 0
      ⟨rfl, rfl, rfl, rfl, rfl, rfl, trivial⟩ ⟨Nat.zero_le _, hS⟩ ?_
    rintro i w2 ⟨hi, hS⟩
    by_cases hik : i < k
    · have h2 : 2 ^ (7 * (i + 1)) = 2 ^ (7 * i) * 128 := by rw [show 7 * (i + 1) = 7 * i + 7 by omega, Nat.pow_add]
      have h3 : 2 ^ (7 * (i + 1)) ≤ P := by rw [hP]; exact Nat.pow_le_pow_right (by omega) (by omega)
      obtain ⟨U, hU⟩ : ∃ U, U = 2 ^ (7 * i) := ⟨_, rfl⟩
      rw [← hU] at h2 ⊢
      repeat (first | refine SemW.run tblOk ?_ | refine jA (by omega) ?_ | refine jB (by omega) ?_ | refine jC (by omega) ?_ | refine jD (by omega) ?_ | refine jE rfl ?_ | refine jF (by omega) ?_ | (refine jG ?_; first | with_reducible (first | refine jH ?_ | refine jI ?_ | refine jJ ?_ | refine jK ?_ | refine jL ?_) | refine jM (by omega) ?_ | refine jN (by omega) ?_ | with_reducible refine jM rfl ?_ | refine jM (by assumption) ?_ | refine jN (by assumption) ?_ | refine jM (by decide) ?_ | refine jN (by decide) ?_) | refine jF (ptr_ok tblOk rfl rfl) ?_ | refine jO (fun _ => by kernel_rfl) ?_ | refine jF (by decide) ?_ | refine hS.ld rfl ?_ | refine hS.ldn rfl ?_ | (refine hS.st rfl rfl ?_; intro _ hS))
      exact ⟨i + 1, ⟨rfl, rfl, rfl, rfl, congrArg (Value.int .u64) (by rw [h2]; omega), rfl, trivial⟩, ⟨by omega, hS⟩, by omega⟩
    have hik : i = k := by omega
    subst hik
    rw [← hP]
    repeat (first | refine SemW.run tblOk ?_ | refine jA (by omega) ?_ | refine jB (by omega) ?_ | refine jC (by omega) ?_ | refine jD (by omega) ?_ | refine jE rfl ?_ | refine jF (by omega) ?_ | (refine jG ?_; first | with_reducible (first | refine jH ?_ | refine jI ?_ | refine jJ ?_ | refine jK ?_ | refine jL ?_) | refine jM (by omega) ?_ | refine jN (by omega) ?_ | with_reducible refine jM rfl ?_ | refine jM (by assumption) ?_ | refine jN (by assumption) ?_ | refine jM (by decide) ?_ | refine jN (by decide) ?_) | refine jF (ptr_ok tblOk rfl rfl) ?_ | refine jO (fun _ => by kernel_rfl) ?_ | refine jF (by decide) ?_ | refine hS.ld rfl ?_ | refine hS.ldn rfl ?_ | (refine hS.st rfl rfl ?_; intro _ hS))
    rw [hcpi]
    by_cases h128 : c.toNat < 128
    · obtain ⟨hyes, hno⟩ := numJ_ref hJ hkt (by omega) (by rw [← hct]; exact hbad) (by rw [← hct]; exact h128)
      rw [← hct, ← hP, ← hcp] at hyes hno
      repeat (first | refine SemW.run tblOk ?_ | refine jA (by omega) ?_ | refine jB (by omega) ?_ | refine jC (by omega) ?_ | refine jD (by omega) ?_ | refine jE rfl ?_ | refine jF (by omega) ?_ | (refine jG ?_; first | with_reducible (first | refine jH ?_ | refine jI ?_ | refine jJ ?_ | refine jK ?_ | refine jL ?_) | refine jM (by omega) ?_ | refine jN (by omega) ?_ | with_reducible refine jM rfl ?_ | refine jM (by assumption) ?_ | refine jN (by assumption) ?_ | refine jM (by decide) ?_ | refine jN (by decide) ?_) | refine jF (ptr_ok tblOk rfl rfl) ?_ | refine jO (fun _ => by kernel_rfl) ?_ | refine jF (by decide) ?_ | refine hS.ld rfl ?_ | refine hS.ldn rfl ?_ | (refine hS.st rfl rfl ?_; intro _ hS))
      rw [← hc]
      by_cases he : numB (n + cp) = t.take (i + 1)
      · repeat (first | refine SemW.run tblOk ?_ | refine jA (by omega) ?_ | refine jB (by omega) ?_ | refine jC (by omega) ?_ | refine jD (by omega) ?_ | refine jE rfl ?_ | refine jF (by omega) ?_ | (refine jG ?_; first | with_reducible (first | refine jH ?_ | refine jI ?_ | refine jJ ?_ | refine jK ?_ | refine jL ?_) | refine jM (by omega) ?_ | refine jN (by omega) ?_ | with_reducible refine jM rfl ?_ | refine jM (by assumption) ?_ | refine jN (by assumption) ?_ | refine jM (by decide) ?_ | refine jN (by decide) ?_) | refine jF (ptr_ok tblOk rfl rfl) ?_ | refine jO (fun _ => by kernel_rfl) ?_ | refine jF (by decide) ?_ | refine hS.ld rfl ?_ | refine hS.ldn rfl ?_ | (refine hS.st rfl rfl ?_; intro _ hS))
        refine SemW.draw tblOk mixed (fun w' => St w [b] [(b, rdC' t)] w') [] [0, 2, 3, 4, 5, 6, 7, 8, 1, 9] (by kernel_rfl) hS.drew ?_
        have hS := hS.drew
        repeat (first | refine SemW.run tblOk ?_ | refine jA (by omega) ?_ | refine jB (by omega) ?_ | refine jC (by omega) ?_ | refine jD (by omega) ?_ | refine jE rfl ?_ | refine jF (by omega) ?_ | (refine jG ?_; first | with_reducible (first | refine jH ?_ | refine jI ?_ | refine jJ ?_ | refine jK ?_ | refine jL ?_) | refine jM (by omega) ?_ | refine jN (by omega) ?_ | with_reducible refine jM rfl ?_ | refine jM (by assumption) ?_ | refine jN (by assumption) ?_ | refine jM (by decide) ?_ | refine jN (by decide) ?_) | refine jF (ptr_ok tblOk rfl rfl) ?_ | refine jO (fun _ => by kernel_rfl) ?_ | refine jF (by decide) ?_ | refine hS.ldC rfl ?_ | refine hS.ldnC rfl ?_)
        rw [show (n : Int) + (cp : Int) = ((n + cp : Nat) : Int) by omega, ek]
        refine Cl.mono (NumE_spec (n + cp) hl7) ?_
        rintro _ w4 ⟨rfl, hS'⟩
        have hS := hS.call0 hS'
        refine Chk.mk hS ?_
        repeat (first | refine SemW.run tblOk ?_ | refine jA (by omega) ?_ | refine jB (by omega) ?_ | refine jC (by omega) ?_ | refine jD (by omega) ?_ | refine jE rfl ?_ | refine jF (by omega) ?_ | (refine jG ?_; first | with_reducible (first | refine jH ?_ | refine jI ?_ | refine jJ ?_ | refine jK ?_ | refine jL ?_) | refine jM (by omega) ?_ | refine jN (by omega) ?_ | with_reducible refine jM rfl ?_ | refine jM (by assumption) ?_ | refine jN (by assumption) ?_ | refine jM (by decide) ?_ | refine jN (by decide) ?_) | refine jF (ptr_ok tblOk rfl rfl) ?_ | refine jO (fun _ => by kernel_rfl) ?_ | refine jF (by decide) ?_ | refine hS.ld rfl ?_ | refine hS.ldn rfl ?_ | (refine hS.st rfl rfl ?_; intro _ hS))
        rw [hyes he]
        rw [ek] at hS
        exact ⟨rfl, hS⟩
      · repeat (first | refine SemW.run tblOk ?_ | refine jA (by omega) ?_ | refine jB (by omega) ?_ | refine jC (by omega) ?_ | refine jD (by omega) ?_ | refine jE rfl ?_ | refine jF (by omega) ?_ | (refine jG ?_; first | with_reducible (first | refine jH ?_ | refine jI ?_ | refine jJ ?_ | refine jK ?_ | refine jL ?_) | refine jM (by omega) ?_ | refine jN (by omega) ?_ | with_reducible refine jM rfl ?_ | refine jM (by assumption) ?_ | refine jN (by assumption) ?_ | refine jM (by decide) ?_ | refine jN (by decide) ?_) | refine jF (ptr_ok tblOk rfl rfl) ?_ | refine jO (fun _ => by kernel_rfl) ?_ | refine jF (by decide) ?_ | refine hS.ld rfl ?_ | refine hS.ldn rfl ?_ | (refine hS.st rfl rfl ?_; intro _ hS))
        refine SemW.draw tblOk mixed (fun w' => St w [b] [(b, rdC' t)] w') [] [0, 2, 3, 4, 5, 6, 7, 8, 1, 9] (by kernel_rfl) hS.drew ?_
        have hS := hS.drew
        repeat (first | refine SemW.run tblOk ?_ | refine jA (by omega) ?_ | refine jB (by omega) ?_ | refine jC (by omega) ?_ | refine jD (by omega) ?_ | refine jE rfl ?_ | refine jF (by omega) ?_ | (refine jG ?_; first | with_reducible (first | refine jH ?_ | refine jI ?_ | refine jJ ?_ | refine jK ?_ | refine jL ?_) | refine jM (by omega) ?_ | refine jN (by omega) ?_ | with_reducible refine jM rfl ?_ | refine jM (by assumption) ?_ | refine jN (by assumption) ?_ | refine jM (by decide) ?_ | refine jN (by decide) ?_) | refine jF (ptr_ok tblOk rfl rfl) ?_ | refine jO (fun _ => by kernel_rfl) ?_ | refine jF (by decide) ?_ | refine hS.ldC rfl ?_ | refine hS.ldnC rfl ?_)
        rw [show (n : Int) + (cp : Int) = ((n + cp : Nat) : Int) by omega, ek]
        refine Cl.mono (NumE_spec (n + cp) hl7) ?_
        rintro _ w4 ⟨rfl, hS'⟩
        have hS := hS.call0 hS'
        refine Chk.mk hS ?_
        have hfail := hno he
        repeat (first | refine SemW.run tblOk ?_ | refine jA (by omega) ?_ | refine jB (by omega) ?_ | refine jC (by omega) ?_ | refine jD (by omega) ?_ | refine jE rfl ?_ | refine jF (by omega) ?_ | (refine jG ?_; first | with_reducible (first | refine jH ?_ | refine jI ?_ | refine jJ ?_ | refine jK ?_ | refine jL ?_) | refine jM (by omega) ?_ | refine jN (by omega) ?_ | with_reducible refine jM rfl ?_ | refine jM (by assumption) ?_ | refine jN (by assumption) ?_ | refine jM (by decide) ?_ | refine jN (by decide) ?_) | refine jF (ptr_ok tblOk rfl rfl) ?_ | refine jO (fun _ => by kernel_rfl) ?_ | refine jF (by decide) ?_ | refine hS.ld rfl ?_ | refine hS.ldn rfl ?_ | (refine hS.st rfl rfl ?_; intro _ hS))
        rw [hfail]
        exact ⟨rfl, hS⟩
    · have hnx := numJ_next hJ hkt (by rw [← hct]; omega) (by rw [← hct]; exact h128)
      rw [← hct, ← hP, ← hcp] at hnx
      first
      | (exfalso; omega)
      | (repeat (first | refine SemW.run tblOk ?_ | refine jA (by omega) ?_ | refine jB (by omega) ?_ | refine jC (by omega) ?_ | refine jD (by omega) ?_ | refine jE rfl ?_ | refine jF (by omega) ?_ | (refine jG ?_; first | with_reducible (first | refine jH ?_ | refine jI ?_ | refine jJ ?_ | refine jK ?_ | refine jL ?_) | refine jM (by omega) ?_ | refine jN (by omega) ?_ | with_reducible refine jM rfl ?_ | refine jM (by assumption) ?_ | refine jN (by assumption) ?_ | refine jM (by decide) ?_ | refine jN (by decide) ?_) | refine jF (ptr_ok tblOk rfl rfl) ?_ | refine jO (fun _ => by kernel_rfl) ?_ | refine jF (by decide) ?_ | refine hS.ld rfl ?_ | refine hS.ldn rfl ?_ | (refine hS.st rfl rfl ?_; intro _ hS))
         rw [← hc]
         repeat (first | refine SemW.run tblOk ?_ | refine jA (by omega) ?_ | refine jB (by omega) ?_ | refine jC (by omega) ?_ | refine jD (by omega) ?_ | refine jE rfl ?_ | refine jF (by omega) ?_ | (refine jG ?_; first | with_reducible (first | refine jH ?_ | refine jI ?_ | refine jJ ?_ | refine jK ?_ | refine jL ?_) | refine jM (by omega) ?_ | refine jN (by omega) ?_ | with_reducible refine jM rfl ?_ | refine jM (by assumption) ?_ | refine jN (by assumption) ?_ | refine jM (by decide) ?_ | refine jN (by decide) ?_) | refine jF (ptr_ok tblOk rfl rfl) ?_ | refine jO (fun _ => by kernel_rfl) ?_ | refine jF (by decide) ?_ | refine hS.ld rfl ?_ | refine hS.ldn rfl ?_ | (refine hS.st rfl rfl ?_; intro _ hS))
         exact ⟨(i + 1, n + cp), ⟨rfl, rfl, rfl, trivial⟩, ⟨hnx, hS⟩, by simp only; omega⟩)
  · repeat (first | refine SemW.run tblOk ?_ | refine jA (by omega) ?_ | refine jB (by omega) ?_ | refine jC (by omega) ?_ | refine jD (by omega) ?_ | refine jE rfl ?_ | refine jF (by omega) ?_ | (refine jG ?_; first | with_reducible (first | refine jH ?_ | refine jI ?_ | refine jJ ?_ | refine jK ?_ | refine jL ?_) | refine jM (by omega) ?_ | refine jN (by omega) ?_ | with_reducible refine jM rfl ?_ | refine jM (by assumption) ?_ | refine jN (by assumption) ?_ | refine jM (by decide) ?_ | refine jN (by decide) ?_) | refine jF (ptr_ok tblOk rfl rfl) ?_ | refine jO (fun _ => by kernel_rfl) ?_ | refine jF (by decide) ?_ | refine hS.ld rfl ?_ | refine hS.ldn rfl ?_ | (refine hS.st rfl rfl ?_; intro _ hS))
    rw [← hc, ecm, hwm]
    repeat (first | refine SemW.run tblOk ?_ | refine jA (by omega) ?_ | refine jB (by omega) ?_ | refine jC (by omega) ?_ | refine jD (by omega) ?_ | refine jE rfl ?_ | refine jF (by omega) ?_ | (refine jG ?_; first | with_reducible (first | refine jH ?_ | refine jI ?_ | refine jJ ?_ | refine jK ?_ | refine jL ?_) | refine jM (by omega) ?_ | refine jN (by omega) ?_ | with_reducible refine jM rfl ?_ | refine jM (by assumption) ?_ | refine jN (by assumption) ?_ | refine jM (by decide) ?_ | refine jN (by decide) ?_) | refine jF (ptr_ok tblOk rfl rfl) ?_ | refine jO (fun _ => by kernel_rfl) ?_ | refine jF (by decide) ?_ | refine hS.ld rfl ?_ | refine hS.ldn rfl ?_ | (refine hS.st rfl rfl ?_; intro _ hS))
    refine SemW.loop (fun i : Nat => [(0, ptr b), (4, .int .u64 n), (5, .int .i64 k), (6, .int .u64 (c.toNat % 128 : Nat)), (7, .int .u64 (2 ^ (7 * i) : Nat)), (8, .int .i64 i)])
      (fun i w' => i ≤ k ∧ St w [b] [(b, rdC' t)] w') (fun i => k - i) 0
      ⟨rfl, rfl, rfl, rfl, rfl, rfl, trivial⟩ ⟨Nat.zero_le _, hS⟩ ?_
    rintro i w2 ⟨hi, hS⟩
    by_cases hik : i < k
    · have h2 : 2 ^ (7 * (i + 1)) = 2 ^ (7 * i) * 128 := by rw [show 7 * (i + 1) = 7 * i + 7 by omega, Nat.pow_add]
      have h3 : 2 ^ (7 * (i + 1)) ≤ P := by rw [hP]; exact Nat.pow_le_pow_right (by omega) (by omega)
      obtain ⟨U, hU⟩ : ∃ U, U = 2 ^ (7 * i) := ⟨_, rfl⟩
      rw [← hU] at h2 ⊢
      repeat (first | refine SemW.run tblOk ?_ | refine jA (by omega) ?_ | refine jB (by omega) ?_ | refine jC (by omega) ?_ | refine jD (by omega) ?_ | refine jE rfl ?_ | refine jF (by omega) ?_ | (refine jG ?_; first | with_reducible (first | refine jH ?_ | refine jI ?_ | refine jJ ?_ | refine jK ?_ | refine jL ?_) | refine jM (by omega) ?_ | refine jN (by omega) ?_ | with_reducible refine jM rfl ?_ | refine jM (by assumption) ?_ | refine jN (by assumption) ?_ | refine jM (by decide) ?_ | refine jN (by decide) ?_) | refine jF (ptr_ok tblOk rfl rfl) ?_ | refine jO (fun _ => by kernel_rfl) ?_ | refine jF (by decide) ?_ | refine hS.ld rfl ?_ | refine hS.ldn rfl ?_ | (refine hS.st rfl rfl ?_; intro _ hS))
      exact ⟨i + 1, ⟨rfl, rfl, rfl, rfl, congrArg (Value.int .u64) (by rw [h2]; omega), rfl, trivial⟩, ⟨by omega, hS⟩, by omega⟩
    have hik : i = k := by omega
    subst hik
    rw [← hP]
    repeat (first | refine SemW.run tblOk ?_ | refine jA (by omega) ?_ | refine jB (by omega) ?_ | refine jC (by omega) ?_ | refine jD (by omega) ?_ | refine jE rfl ?_ | refine jF (by omega) ?_ | (refine jG ?_; first | with_reducible (first | refine jH ?_ | refine jI ?_ | refine jJ ?_ | refine jK ?_ | refine jL ?_) | refine jM (by omega) ?_ | refine jN (by omega) ?_ | with_reducible refine jM rfl ?_ | refine jM (by assumption) ?_ | refine jN (by assumption) ?_ | refine jM (by decide) ?_ | refine jN (by decide) ?_) | refine jF (ptr_ok tblOk rfl rfl) ?_ | refine jO (fun _ => by kernel_rfl) ?_ | refine jF (by decide) ?_ | refine hS.ld rfl ?_ | refine hS.ldn rfl ?_ | (refine hS.st rfl rfl ?_; intro _ hS))
    rw [hcpi]
    by_cases h128 : c.toNat < 128
    · obtain ⟨hyes, hno⟩ := numJ_ref hJ hkt (by omega) (by rw [← hct]; exact hbad) (by rw [← hct]; exact h128)
      rw [← hct, ← hP, ← hcp] at hyes hno
      repeat (first | refine SemW.run tblOk ?_ | refine jA (by omega) ?_ | refine jB (by omega) ?_ | refine jC (by omega) ?_ | refine jD (by omega) ?_ | refine jE rfl ?_ | refine jF (by omega) ?_ | (refine jG ?_; first | with_reducible (first | refine jH ?_ | refine jI ?_ | refine jJ ?_ | refine jK ?_ | refine jL ?_) | refine jM (by omega) ?_ | refine jN (by omega) ?_ | with_reducible refine jM rfl ?_ | refine jM (by assumption) ?_ | refine jN (by assumption) ?_ | refine jM (by decide) ?_ | refine jN (by decide) ?_) | refine jF (ptr_ok tblOk rfl rfl) ?_ | refine jO (fun _ => by kernel_rfl) ?_ | refine jF (by decide) ?_ | refine hS.ld rfl ?_ | refine hS.ldn rfl ?_ | (refine hS.st rfl rfl ?_; intro _ hS))
      rw [← hc]
      by_cases he : numB (n + cp) = t.take (i + 1)
      · repeat (first | refine SemW.run tblOk ?_ | refine jA (by omega) ?_ | refine jB (by omega) ?_ | refine jC (by omega) ?_ | refine jD (by omega) ?_ | refine jE rfl ?_ | refine jF (by omega) ?_ | (refine jG ?_; first | with_reducible (first | refine jH ?_ | refine jI ?_ | refine jJ ?_ | refine jK ?_ | refine jL ?_) | refine jM (by omega) ?_ | refine jN (by omega) ?_ | with_reducible refine jM rfl ?_ | refine jM (by assumption) ?_ | refine jN (by assumption) ?_ | refine jM (by decide) ?_ | refine jN (by decide) ?_) | refine jF (ptr_ok tblOk rfl rfl) ?_ | refine jO (fun _ => by kernel_rfl) ?_ | refine jF (by decide) ?_ | refine hS.ld rfl ?_ | refine hS.ldn rfl ?_ | (refine hS.st rfl rfl ?_; intro _ hS))
        refine SemW.draw tblOk mixed (fun w' => St w [b] [(b, rdC' t)] w') [] [0, 2, 3, 4, 5, 6, 7, 8, 1, 9] (by kernel_rfl) hS.drew ?_
        have hS := hS.drew
        repeat (first | refine SemW.run tblOk ?_ | refine jA (by omega) ?_ | refine jB (by omega) ?_ | refine jC (by omega) ?_ | refine jD (by omega) ?_ | refine jE rfl ?_ | refine jF (by omega) ?_ | (refine jG ?_; first | with_reducible (first | refine jH ?_ | refine jI ?_ | refine jJ ?_ | refine jK ?_ | refine jL ?_) | refine jM (by omega) ?_ | refine jN (by omega) ?_ | with_reducible refine jM rfl ?_ | refine jM (by assumption) ?_ | refine jN (by assumption) ?_ | refine jM (by decide) ?_ | refine jN (by decide) ?_) | refine jF (ptr_ok tblOk rfl rfl) ?_ | refine jO (fun _ => by kernel_rfl) ?_ | refine jF (by decide) ?_ | refine hS.ldC rfl ?_ | refine hS.ldnC rfl ?_)
        rw [show (n : Int) + (cp : Int) = ((n + cp : Nat) : Int) by omega, ek]
        refine Cl.mono (NumE_spec (n + cp) hl7) ?_
        rintro _ w4 ⟨rfl, hS'⟩
        have hS := hS.call0 hS'
        refine Chk.mk hS ?_
        repeat (first | refine SemW.run tblOk ?_ | refine jA (by omega) ?_ | refine jB (by omega) ?_ | refine jC (by omega) ?_ | refine jD (by omega) ?_ | refine jE rfl ?_ | refine jF (by omega) ?_ | (refine jG ?_; first | with_reducible (first | refine jH ?_ | refine jI ?_ | refine jJ ?_ | refine jK ?_ | refine jL ?_) | refine jM (by omega) ?_ | refine jN (by omega) ?_ | with_reducible refine jM rfl ?_ | refine jM (by assumption) ?_ | refine jN (by assumption) ?_ | refine jM (by decide) ?_ | refine jN (by decide) ?_) | refine jF (ptr_ok tblOk rfl rfl) ?_ | refine jO (fun _ => by kernel_rfl) ?_ | refine jF (by decide) ?_ | refine hS.ld rfl ?_ | refine hS.ldn rfl ?_ | (refine hS.st rfl rfl ?_; intro _ hS))
        rw [hyes he]
        rw [ek] at hS
        exact ⟨rfl, hS⟩
      · repeat (first | refine SemW.run tblOk ?_ | refine jA (by omega) ?_ | refine jB (by omega) ?_ | refine jC (by omega) ?_ | refine jD (by omega) ?_ | refine jE rfl ?_ | refine jF (by omega) ?_ | (refine jG ?_; first | with_reducible (first | refine jH ?_ | refine jI ?_ | refine jJ ?_ | refine jK ?_ | refine jL ?_) | refine jM (by omega) ?_ | refine jN (by omega) ?_ | with_reducible refine jM rfl ?_ | refine jM (by assumption) ?_ | refine jN (by assumption) ?_ | refine jM (by decide) ?_ | refine jN (by decide) ?_) | refine jF (ptr_ok tblOk rfl rfl) ?_ | refine jO (fun _ => by kernel_rfl) ?_ | refine jF (by decide) ?_ | refine hS.ld rfl ?_ | refine hS.ldn rfl ?_ | (refine hS.st rfl rfl ?_; intro _ hS))
        refine SemW.draw tblOk mixed (fun w' => St w [b] [(b, rdC' t)] w') [] [0, 2, 3, 4, 5, 6, 7, 8, 1, 9] (by kernel_rfl) hS.drew ?_
        have hS := hS.drew
        repeat (first | refine SemW.run tblOk ?_ | refine jA (by omega) ?_ | refine jB (by omega) ?_ | refine jC (by omega) ?_ | refine jD (by omega) ?_ | refine jE rfl ?_ | refine jF (by omega) ?_ | (refine jG ?_; first | with_reducible (first | refine jH ?_ | refine jI ?_ | refine jJ ?_ | refine jK ?_ | refine jL ?_) | refine jM (by omega) ?_ | refine jN (by omega) ?_ | with_reducible refine jM rfl ?_ | refine jM (by assumption) ?_ | refine jN (by assumption) ?_ | refine jM (by decide) ?_ | refine jN (by decide) ?_) | refine jF (ptr_ok tblOk rfl rfl) ?_ | refine jO (fun _ => by kernel_rfl) ?_ | refine jF (by decide) ?_ | refine hS.ldC rfl ?_ | refine hS.ldnC rfl ?_)
        rw [show (n : Int) + (cp : Int) = ((n + cp : Nat) : Int) by omega, ek]
        refine Cl.mono (NumE_spec (n + cp) hl7) ?_
        rintro _ w4 ⟨rfl, hS'⟩
        have hS := hS.call0 hS'
        refine Chk.mk hS ?_
        have hfail := hno he
        repeat (first | refine SemW.run tblOk ?_ | refine jA (by omega) ?_ | refine jB (by omega) ?_ | refine jC (by omega) ?_ | refine jD (by omega) ?_ | refine jE rfl ?_ | refine jF (by omega) ?_ | (refine jG ?_; first | with_reducible (first | refine jH ?_ | refine jI ?_ | refine jJ ?_ | refine jK ?_ | refine jL ?_) | refine jM (by omega) ?_ | refine jN (by omega) ?_ | with_reducible refine jM rfl ?_ | refine jM (by assumption) ?_ | refine jN (by assumption) ?_ | refine jM (by decide) ?_ | refine jN (by decide) ?_) | refine jF (ptr_ok tblOk rfl rfl) ?_ | refine jO (fun _ => by kernel_rfl) ?_ | refine jF (by decide) ?_ | refine hS.ld rfl ?_ | refine hS.ldn rfl ?_ | (refine hS.st rfl rfl ?_; intro _ hS))
        rw [hfail]
        exact ⟨rfl, hS⟩
    · have hnx := numJ_next hJ hkt (by rw [← hct]; omega) (by rw [← hct]; exact h128)
      rw [← hct, ← hP, ← hcp] at hnx
      first
      | (exfalso; omega)
      | (repeat (first | refine SemW.run tblOk ?_ | refine jA (by omega) ?_ | refine jB (by omega) ?_ | refine jC (by omega) ?_ | refine jD (by omega) ?_ | refine jE rfl ?_ | refine jF (by omega) ?_ | (refine jG ?_; first | with_reducible (first | refine jH ?_ | refine jI ?_ | refine jJ ?_ | refine jK ?_ | refine jL ?_) | refine jM (by omega) ?_ | refine jN (by omega) ?_ | with_reducible refine jM rfl ?_ | refine jM (by assumption) ?_ | refine jN (by assumption) ?_ | refine jM (by decide) ?_ | refine jN (by decide) ?_) | refine jF (ptr_ok tblOk rfl rfl) ?_ | refine jO (fun _ => by kernel_rfl) ?_ | refine jF (by decide) ?_ | refine hS.ld rfl ?_ | refine hS.ldn rfl ?_ | (refine hS.st rfl rfl ?_; intro _ hS))
         rw [← hc]
         repeat (first | refine SemW.run tblOk ?_ | refine jA (by omega) ?_ | refine jB (by omega) ?_ | refine jC (by omega) ?_ | refine jD (by omega) ?_ | refine jE rfl ?_ | refine jF (by omega) ?_ | (refine jG ?_; first | with_reducible (first | refine jH ?_ | refine jI ?_ | refine jJ ?_ | refine jK ?_ | refine jL ?_) | refine jM (by omega) ?_ | refine jN (by omega) ?_ | with_reducible refine jM rfl ?_ | refine jM (by assumption) ?_ | refine jN (by assumption) ?_ | refine jM (by decide) ?_ | refine jN (by decide) ?_) | refine jF (ptr_ok tblOk rfl rfl) ?_ | refine jO (fun _ => by kernel_rfl) ?_ | refine jF (by decide) ?_ | refine hS.ld rfl ?_ | refine hS.ldn rfl ?_ | (refine hS.st rfl rfl ?_; intro _ hS))
         exact ⟨(i + 1, n + cp), ⟨rfl, rfl, rfl, trivial⟩, ⟨hnx, hS⟩, by simp only; omega⟩)
theorem Unfold_spec {w : World} (u : Nat) (hu : u < 18446744073709551616) : Cl Tryd.prog f_tarmacref01_Unfold [u64V u] w fun v w' => v = .int .i64 (unzig u) ∧ St w [] [] w' := by
  have hS := St.start w
  unfold u64V unzig
  have e1 : ((u : Int).tmod 2) = ((u % 2 : Nat) : Int) := tmodN u 2
  have e2 : ((u : Int).tdiv 2) = ((u / 2 : Nat) : Int) := tdivN u 2
  refine en_tarmacref01_Unfold rfl ?_
  by_cases h : u % 2 = 0
  · rw [if_pos h]
    repeat (first | refine SemW.run tblOk ?_ | refine jA (by omega) ?_ | refine jB (by omega) ?_ | refine jC (by omega) ?_ | refine jD (by omega) ?_ | refine jE rfl ?_ | refine jF (by omega) ?_ | (refine jG ?_; first | with_reducible (first | refine jH ?_ | refine jI ?_ | refine jJ ?_ | refine jK ?_ | refine jL ?_) | refine jM (by omega) ?_ | refine jN (by omega) ?_ | with_reducible refine jM rfl ?_ | refine jM (by assumption) ?_ | refine jN (by assumption) ?_ | refine jM (by decide) ?_ | refine jN (by decide) ?_) | refine jF (ptr_ok tblOk rfl rfl) ?_ | refine jO (fun _ => by kernel_rfl) ?_ | refine jF (by decide) ?_)
    rw [e1]
    repeat (first | refine SemW.run tblOk ?_ | refine jA (by omega) ?_ | refine jB (by omega) ?_ | refine jC (by omega) ?_ | refine jD (by omega) ?_ | refine jE rfl ?_ | refine jF (by omega) ?_ | (refine jG ?_; first | with_reducible (first | refine jH ?_ | refine jI ?_ | refine jJ ?_ | refine jK ?_ | refine jL ?_) | refine jM (by omega) ?_ | refine jN (by omega) ?_ | with_reducible refine jM rfl ?_ | refine jM (by assumption) ?_ | refine jN (by assumption) ?_ | refine jM (by decide) ?_ | refine jN (by decide) ?_) | refine jF (ptr_ok tblOk rfl rfl) ?_ | refine jO (fun _ => by kernel_rfl) ?_ | refine jF (by decide) ?_)
    rw [e2]
    repeat (first | refine SemW.run tblOk ?_ | refine jA (by omega) ?_ | refine jB (by omega) ?_ | refine jC (by omega) ?_ | refine jD (by omega) ?_ | refine jE rfl ?_ | refine jF (by omega) ?_ | (refine jG ?_; first | with_reducible (first | refine jH ?_ | refine jI ?_ | refine jJ ?_ | refine jK ?_ | refine jL ?_) | refine jM (by omega) ?_ | refine jN (by omega) ?_ | with_reducible refine jM rfl ?_ | refine jM (by assumption) ?_ | refine jN (by assumption) ?_ | refine jM (by decide) ?_ | refine jN (by decide) ?_) | refine jF (ptr_ok tblOk rfl rfl) ?_ | refine jO (fun _ => by kernel_rfl) ?_ | refine jF (by decide) ?_)
    exact ⟨rfl, hS⟩
  · rw [if_neg h]
    repeat (first | refine SemW.run tblOk ?_ | refine jA (by omega) ?_ | refine jB (by omega) ?_ | refine jC (by omega) ?_ | refine jD (by omega) ?_ | refine jE rfl ?_ | refine jF (by omega) ?_ | (refine jG ?_; first | with_reducible (first | refine jH ?_ | refine jI ?_ | refine jJ ?_ | refine jK ?_ | refine jL ?_) | refine jM (by omega) ?_ | refine jN (by omega) ?_ | with_reducible refine jM rfl ?_ | refine jM (by assumption) ?_ | refine jN (by assumption) ?_ | refine jM (by decide) ?_ | refine jN (by decide) ?_) | refine jF (ptr_ok tblOk rfl rfl) ?_ | refine jO (fun _ => by kernel_rfl) ?_ | refine jF (by decide) ?_)
    rw [e1]
    repeat (first | refine SemW.run tblOk ?_ | refine jA (by omega) ?_ | refine jB (by omega) ?_ | refine jC (by omega) ?_ | refine jD (by omega) ?_ | refine jE rfl ?_ | refine jF (by omega) ?_ | (refine jG ?_; first | with_reducible (first | refine jH ?_ | refine jI ?_ | refine jJ ?_ | refine jK ?_ | refine jL ?_) | refine jM (by omega) ?_ | refine jN (by omega) ?_ | with_reducible refine jM rfl ?_ | refine jM (by assumption) ?_ | refine jN (by assumption) ?_ | refine jM (by decide) ?_ | refine jN (by decide) ?_) | refine jF (ptr_ok tblOk rfl rfl) ?_ | refine jO (fun _ => by kernel_rfl) ?_ | refine jF (by decide) ?_)
    rw [e2]
    repeat (first | refine SemW.run tblOk ?_ | refine jA (by omega) ?_ | refine jB (by omega) ?_ | refine jC (by omega) ?_ | refine jD (by omega) ?_ | refine jE rfl ?_ | refine jF (by omega) ?_ | (refine jG ?_; first | with_reducible (first | refine jH ?_ | refine jI ?_ | refine jJ ?_ | refine jK ?_ | refine jL ?_) | refine jM (by omega) ?_ | refine jN (by omega) ?_ | with_reducible refine jM rfl ?_ | refine jM (by assumption) ?_ | refine jN (by assumption) ?_ | refine jM (by decide) ?_ | refine jN (by decide) ?_) | refine jF (ptr_ok tblOk rfl rfl) ?_ | refine jO (fun _ => by kernel_rfl) ?_ | refine jF (by decide) ?_)
    exact ⟨congrArg (Value.int .i64) (by omega), hS⟩
set_option maxHeartbeats 1000000 in
theorem RIntE_spec {w : World} {b : Nat} {t : Bytes} (hh : Holds [(b, rdC' t)] w) (ht : t.length ≤ 70368744177664) :
    Cl Tryd.prog f_tarmacref01_Reader_Int [ptr b] w fun v w' => v = .tuple ⟨[.int .i64 (intO t).1, .int .i64 (intO t).2.1]⟩ ∧ St w [b] [(b, rdC' (intO t).2.2)] w' := by
  refine en_tarmacref01_Reader_Int rfl ?_
  repeat (first | refine SemW.run tblOk ?_ | refine jA (by omega) ?_ | refine jB (by omega) ?_ | refine jC (by omega) ?_ | refine jD (by omega) ?_ | refine jE rfl ?_ | refine jF (by omega) ?_ | (refine jG ?_; first | with_reducible (first | refine jH ?_ | refine jI ?_ | refine jJ ?_ | refine jK ?_ | refine jL ?_) | refine jM (by omega) ?_ | refine jN (by omega) ?_ | with_reducible refine jM rfl ?_ | refine jM (by assumption) ?_ | refine jN (by assumption) ?_ | refine jM (by decide) ?_ | refine jN (by decide) ?_) | refine jF (ptr_ok tblOk rfl rfl) ?_ | refine jO (fun _ => by kernel_rfl) ?_ | refine jF (by decide) ?_)
  refine Cl.mono (RNumE_spec hh ht) ?_
  rintro _ w1 ⟨rfl, hS⟩
  have hlt := numO_lt t
  have h0 : (numO t).2.1 ≠ 0 → (numO t).1 = 0 := by
    unfold numO
    cases numR t with
    | none => intro _; rfl
    | some x => intro h; exact absurd rfl h
  unfold intO
  generalize numO t = x at hS hlt h0 ⊢
  obtain ⟨u, e, r⟩ := x
  simp only at hS hlt h0 ⊢
  by_cases he : e = 0
  · repeat (first | refine SemW.run tblOk ?_ | refine jA (by omega) ?_ | refine jB (by omega) ?_ | refine jC (by omega) ?_ | refine jD (by omega) ?_ | refine jE rfl ?_ | refine jF (by omega) ?_ | (refine jG ?_; first | with_reducible (first | refine jH ?_ | refine jI ?_ | refine jJ ?_ | refine jK ?_ | refine jL ?_) | refine jM (by omega) ?_ | refine jN (by omega) ?_ | with_reducible refine jM rfl ?_ | refine jM (by assumption) ?_ | refine jN (by assumption) ?_ | refine jM (by decide) ?_ | refine jN (by decide) ?_) | refine jF (ptr_ok tblOk rfl rfl) ?_ | refine jO (fun _ => by kernel_rfl) ?_ | refine jF (by decide) ?_)
    refine Cl.mono (Unfold_spec u hlt) ?_
    rintro _ w2 ⟨rfl, hS'⟩
    have hS := hS.call0 hS'
    repeat (first | refine SemW.run tblOk ?_ | refine jA (by omega) ?_ | refine jB (by omega) ?_ | refine jC (by omega) ?_ | refine jD (by omega) ?_ | refine jE rfl ?_ | refine jF (by omega) ?_ | (refine jG ?_; first | with_reducible (first | refine jH ?_ | refine jI ?_ | refine jJ ?_ | refine jK ?_ | refine jL ?_) | refine jM (by omega) ?_ | refine jN (by omega) ?_ | with_reducible refine jM rfl ?_ | refine jM (by assumption) ?_ | refine jN (by assumption) ?_ | refine jM (by decide) ?_ | refine jN (by decide) ?_) | refine jF (ptr_ok tblOk rfl rfl) ?_ | refine jO (fun _ => by kernel_rfl) ?_ | refine jF (by decide) ?_)
    rw [he]
    exact ⟨rfl, hS⟩
  · have hu := h0 he
    subst hu
    repeat (first | refine SemW.run tblOk ?_ | refine jA (by omega) ?_ | refine jB (by omega) ?_ | refine jC (by omega) ?_ | refine jD (by omega) ?_ | refine jE rfl ?_ | refine jF (by omega) ?_ | (refine jG ?_; first | with_reducible (first | refine jH ?_ | refine jI ?_ | refine jJ ?_ | refine jK ?_ | refine jL ?_) | refine jM (by omega) ?_ | refine jN (by omega) ?_ | with_reducible refine jM rfl ?_ | refine jM (by assumption) ?_ | refine jN (by assumption) ?_ | refine jM (by decide) ?_ | refine jN (by decide) ?_) | refine jF (ptr_ok tblOk rfl rfl) ?_ | refine jO (fun _ => by kernel_rfl) ?_ | refine jF (by decide) ?_)
    exact ⟨rfl, hS⟩
end Go.Proofs.YthpmmfapolcaiaaDoor
