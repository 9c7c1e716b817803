import Derived.Test.YtklppplnkpnbhaaDoorDraw
namespace Go.Eng
open Go

/-- The slice (a, n, cap) of elements of type e, sz cells each, is the call's own: L is its one block (none, if it is nil); xs: its n elements' cells. -/
inductive Vec (e : TypeId) (sz : Nat) : Option Addr → Nat → Nat → List Value → Heap → Prop where
  | nil : Vec e sz none 0 0 [] []
  | row (g n cap : Nat) (xs l : List Value) (hx : xs.length = n * sz) (hl : xs.length + l.length = cap * sz) (hn : n ≤ cap) : Vec e sz (some ⟨g, 0, none⟩) n cap xs [(g, .cells ⟨xs ++ l⟩ e (0, 0))]

theorem Vec.inv {e : TypeId} {sz : Nat} {a : Option Addr} {n cap : Nat} {xs : List Value} {L : Heap} (h : Vec e sz a n cap xs L) :
    (a = none ∧ n = 0 ∧ cap = 0 ∧ xs = [] ∧ L = []) ∨ ∃ g l, a = some ⟨g, 0, none⟩ ∧ xs.length = n * sz ∧ xs.length + l.length = cap * sz ∧ n ≤ cap ∧ L = [(g, .cells ⟨xs ++ l⟩ e (0, 0))] := by
  cases h with
  | nil => exact .inl ⟨rfl, rfl, rfl, rfl, rfl⟩
  | row g n cap xs l hx hl hn => exact .inr ⟨g, l, rfl, hx, hl, hn, rfl⟩
theorem Vec.made (e : TypeId) (g : Nat) (xs : List Value) : Vec e 1 (some ⟨g, 0, none⟩) xs.length xs.length xs [(g, .cells ⟨xs⟩ e (0, 0))] := by
  have := Vec.row (e := e) (sz := 1) g xs.length xs.length xs [] (by simp) (by simp) (Nat.le_refl _)
  simpa using this
theorem Vec.len {e : TypeId} {sz : Nat} {a : Option Addr} {n cap : Nat} {xs : List Value} {L : Heap} (h : Vec e sz a n cap xs L) : xs.length = n * sz := by
  cases h with
  | nil => simp
  | row => assumption

theorem Vec.cap {e : TypeId} {sz : Nat} {a : Option Addr} {n cap : Nat} {xs : List Value} {L : Heap} (h : Vec e sz a n cap xs L) : n ≤ cap := by
  cases h with
  | nil => exact Nat.le_refl _
  | row g n cap xs l hx hl hn => exact hn
theorem vec_addr {e : TypeId} {sz : Nat} {a : Option Addr} {n cap : Nat} {xs : List Value} {L : Heap} (h : Vec e sz a n cap xs L) : a = none ∨ ∃ g off, a = some ⟨g, off, none⟩ := by
  cases h with
  | nil => exact .inl rfl
  | row g n cap xs l hx hl hn => exact .inr ⟨g, 0, rfl⟩
/-- What stands in the vector can be read. -/
theorem Vec.arr {e : TypeId} {sz : Nat} {a : Option Addr} {n cap : Nat} {xs : List Value} {L : Heap} (h : Vec e sz a n cap xs L) {w0 w : World} {T T' : List Nat} {H : Heap} {F : Heap → Heap} (hS : St w0 T H w) [hc : Chunk H L F]
    (hT : ∀ b ∈ keys L, b ∉ T') : Arr w T' a xs := by
  cases h with
  | nil => exact Arr.nil _ _ _
  | row g n cap xs l hx hl hn =>
    intro j x hj
    have hm := hS.part (L := [(g, Obj.cells ⟨xs ++ l⟩ e (0, 0))]).own _ (List.mem_singleton.2 rfl)
    refine ⟨g, 0, rfl, hT g (by simp [keys]), ?_⟩
    have hlt : j < xs.length := (List.getElem?_eq_some_iff.1 hj).1
    simp only [World.cell?, hm, Nat.zero_add]
    simp only [Option.isSome_none, Bool.false_eq_true, if_false]
    rw [show (Array.mk (xs ++ l))[j]? = (xs ++ l)[j]? by simp, List.getElem?_append_left hlt]; exact hj

section
variable {P : Program} {T0 : Tbl}
theorem info_of (hT : TOk P T0) {t : TypeId} {i : TI} (hi : tf T0 t = some i) : ∃ inf, P.info? t = some inf ∧ inf.zero = some i.zero ∧ inf.size = i.size ∧ inf.bytes = i.bytes := by
  have := (hT _ _ hi).1
  cases hinf : P.info? t with
  | none => rw [hinf] at this; simp at this
  | some inf => rw [hinf] at this; simp at this; exact ⟨inf, rfl, this.1, this.2.1, this.2.2⟩
theorem und_of (hT : TOk P T0) {t : TypeId} {i : TI} (hi : tf T0 t = some i) : i.k.ok P t := (hT _ _ hi).2

theorem zeroCells_len (z : Array Value) (n : Nat) : (Builtin.zeroCells z n).toList.length = n * z.size := by simp [Builtin.zeroCells]

/-- append, whatever is appended: 'news' are the cells that are read off x. -/
theorem St.appCore (hT : TOk P T0) {t u e ty : TypeId} {sz : Nat} {i ie : TI} (hi : tf T0 t = some i) (hk : i.k = .slice e sz) (hie : tf T0 e = some ie)
    (hz : ie.zero.cells.size = sz) {w0 w : World} {T : List Nat} {H L : Heap} {F : Heap → Heap} (hS : St w0 T H w) {a : Option Addr} {n cap : Nat} {xs : List Value} (hv : Vec e sz a n cap xs L) [hc : Chunk H L F]
    {x : Value} {m : Nat} {news : List Value} (hm : news.length = m * sz) (hu : ∃ d, P.underlying u = some d ∧ ∀ k, d ≠ .int k) (hl : ∀ w, (Builtin.lenOf x).run P w = .ok m w)
    (hsrc : ∀ w', w'.heap = w.heap → (Builtin.firstCells sz m x).run P w' = .ok ⟨news⟩ w') (h1 : news.all Value.oneCell' = true)
    (hlen : (n + m) * ie.bytes ≤ 140737488355328) (hlen' : n + m ≤ 9223372036854775807) :
    ∃ a' cap' L' w', (Builtin.append_ ⟨[t, u]⟩ ty ⟨[.slice a n cap, x]⟩).run P w = .ok (.slice a' (n + m) cap') w' ∧ Vec e sz a' (n + m) cap' (xs ++ news) L' ∧ St w0 T (F L') w' := by
  have ht := und_of hT hi
  rw [hk] at ht
  obtain ⟨ht, hes⟩ := ht
  obtain ⟨inf, hinf, hzz, hs1, hby⟩ := info_of hT hie
  have hsz : inf.size = sz := by rw [hinf] at hes; simpa using hes
  obtain ⟨d, hd, hdi⟩ := hu
  have hpart : Holds L w := hS.part (L := L)
  have hin := St.enter hpart
  -- a new array
  have grown : ∀ old, old < n + m → ∃ cap', (Vec e sz (some ⟨w.heap.size, 0, none⟩) (n + m) cap' (xs ++ news) [(w.heap.size, .cells ⟨(xs ++ news) ++ (Builtin.zeroCells ie.zero.cells (cap' - (n + m))).toList⟩ e (0, 0))]) ∧
      cap' = grownCap w (n + m) old e := by
    intro old ho
    refine ⟨grownCap w (n + m) old e, ?_, rfl⟩
    have hge := grownCap_ge w (n + m) old e
    refine Vec.row _ _ _ _ _ (by rw [List.length_append, hv.len, hm, Nat.add_mul]) ?_ hge
    rw [List.length_append, hv.len, hm, zeroCells_len, hz, ← Nat.add_mul, ← Nat.add_mul]; congr 1; omega
  have step : ∀ o, St w0 T (F [(w.heap.size, o)]) (w.drew.alloc o) := fun o =>
    hS.call (L := L) (((hin.drew).alloc o).sub (List.Sublist.cons_cons _ (List.nil_sublist _)))
  have hsl : ∀ w', (Builtin.lenOf x).run P w' = .ok m w' := hl
  cases hv with
  | nil =>
    by_cases h0 : m = 0
    · subst h0
      have hn0 : news = [] := List.eq_nil_of_length_eq_zero (by simpa using hm)
      subst hn0
      refine ⟨none, 0, [], w, ?_, Vec.nil, hS.call (L := []) hin⟩
      simp [Builtin.append_, run_underlying ht, run_underlying hd, sizeOf, typeInfo, hinf, hsz, hsl, hsrc w rfl]
    · obtain ⟨cap', hV, hcap⟩ := grown 0 (by omega)
      refine ⟨_, cap', _, _, ?_, hV, step _⟩
      have h3 : ¬ (9223372036854775807 < (m : Int)) := by omega
      have h4 : ¬ (281474976710656 < Builtin.nextslicecap m 0 * inf.bytes) := by rw [nextslicecap_zero (by omega), hby]; simp at hlen; omega
      have h5 := hsrc w.drew rfl
      simp only [Nat.zero_add] at hcap
      simp [Builtin.append_, run_underlying ht, run_underlying hd, sizeOf, typeInfo, zeroValue, hinf, hzz, hsz, hsl, h0, h3, h4, Question.forced, run_firstCells_none, h5, newRow, grownCap, hcap]
      congr 2
      apply Array.ext'
      simp
  | row g n cap xs l hx hl2 hn =>
    have hg : w.heap[g]? = some (.cells ⟨xs ++ l⟩ e (0, 0)) := hpart.own _ (List.mem_singleton.2 rfl)
    by_cases hroom : n + m ≤ cap
    · have hfit : (n + m) * sz ≤ cap * sz := Nat.mul_le_mul_right _ hroom
      rw [Nat.add_mul] at hfit
      have hst := run_storeCells_at P g (n * sz) e news 0 ⟨xs ++ l⟩ w hg (by simp; omega) (fun v hv => List.all_eq_true.1 h1 v hv)
      simp only [Nat.add_zero] at hst
      have e1 : (xs ++ l).take (n * sz) = xs := by rw [← hx]; exact List.take_left
      have e2 : (xs ++ l).drop (n * sz + news.length) = l.drop news.length := by rw [← hx, List.drop_append]; simp
      refine ⟨some ⟨g, 0, none⟩, cap, [(g, .cells ⟨(xs ++ news) ++ l.drop news.length⟩ e (0, 0))], w.setRow g ⟨(xs ++ news) ++ l.drop news.length⟩, ?_, Vec.row _ _ _ _ _ (by rw [List.length_append, hx, hm, Nat.add_mul]) (by simp; omega) hroom, ?_⟩
      · simp only [e1, e2] at hst
        simp [Builtin.append_, run_underlying ht, run_underlying hd, sizeOf, typeInfo, hinf, hsz, hsl, hroom, hsrc w rfl, Addr.add_lit, hst]
      · exact hS.call (L := [(g, .cells ⟨xs ++ l⟩ e (0, 0))]) (hin.setRow (b := g) (l := xs ++ l) (l' := (xs ++ news) ++ l.drop news.length))
    · obtain ⟨cap', hV, hcap⟩ := grown cap (by omega)
      refine ⟨_, cap', _, _, ?_, hV, step _⟩
      have h3 : ¬ (9223372036854775807 < ((n : Int) + (m : Int))) := by omega
      have h4 : ¬ (281474976710656 < Builtin.nextslicecap (n + m) cap * inf.bytes) := by
        have := growslice_fits (need := n + m) (old := cap) (bytes := inf.bytes) (by omega) (by rw [hby]; exact hlen)
        omega
      have h5 := hsrc w.drew rfl
      have hfo := run_firstCells_some (P := P) w.drew sz n ⟨g, 0, none⟩ n cap xs hx (fun j v hj => by
        rw [Addr.add_eq, Nat.zero_add]
        have hlt : j < xs.length := (List.getElem?_eq_some_iff.1 hj).1
        have hg' : w.drew.heap[g]? = some (.cells ⟨xs ++ l⟩ e (0, 0)) := hg
        simp only [World.cell?, hg', Option.isSome_none, Bool.false_eq_true, if_false]
        rw [show (Array.mk (xs ++ l))[j]? = (xs ++ l)[j]? by simp, List.getElem?_append_left hlt]; exact hj)
      simp [Builtin.append_, run_underlying ht, run_underlying hd, sizeOf, typeInfo, zeroValue, hinf, hzz, hsz, hsl, hroom, h3, h4, Question.forced, hfo, h5, newRow, grownCap, hcap]
      congr 2
      apply Array.ext'
      simp

theorem Arr.firstCells {w : World} {T : List Nat} {b : Option Addr} {news : List Value} (ha : Arr w T b news) {sz m c : Nat} (hm : news.length = m * sz) {w' : World} (hw : w'.heap = w.heap) :
    (Builtin.firstCells sz m (.slice b m c)).run P w' = .ok ⟨news⟩ w' := by
  cases b with
  | none =>
    cases news with
    | nil => exact run_firstCells_none (P := P) w' sz m m c
    | cons x xs => obtain ⟨_, _, h, _⟩ := ha 0 x rfl; cases h
  | some b =>
    refine run_firstCells_some (P := P) w' sz m b m c news hm fun j v hj => ?_
    obtain ⟨bk, off, h1, _, h3⟩ := ha j v hj
    cases h1
    rw [Addr.add_eq]
    simpa [World.cell?, hw] using h3

/-- append(v, news...) of a slice that is read. -/
theorem St.app (hT : TOk P T0) {t e ty : TypeId} {sz : Nat} {i ie : TI} (hi : tf T0 t = some i) (hk : i.k = .slice e sz) (hie : tf T0 e = some ie)
    (hz : ie.zero.cells.size = sz) {w0 w : World} {T : List Nat} {H L : Heap} {F : Heap → Heap} (hS : St w0 T H w) {a : Option Addr} {n cap : Nat} {xs : List Value} (hv : Vec e sz a n cap xs L) [hc : Chunk H L F]
    {b : Option Addr} {m c : Nat} {news : List Value} (hm : news.length = m * sz) (ha : Arr w [] b news) (h1 : news.all Value.oneCell' = true)
    (hlen : (n + m) * ie.bytes ≤ 140737488355328) (hlen' : n + m ≤ 9223372036854775807) {K : Value → World → Prop}
    (h : ∀ a' cap' L' w', Vec e sz a' (n + m) cap' (xs ++ news) L' → St w0 T (F L') w' → K (.slice a' (n + m) cap') w') :
    RunG P (Builtin.append_ ⟨[t, t]⟩ ty ⟨[.slice a n cap, .slice b m c]⟩) w K := by
  obtain ⟨a', cap', L', w', h2, h3, h4⟩ := St.appCore (ty := ty) hT hi hk hie hz hS hv hm (x := .slice b m c) (u := t) ⟨_, (show P.underlying t = some (.slice e) by have := und_of hT hi; rw [hk] at this; exact this.1), fun k h => by cases h⟩ (fun _ => rfl) (fun w' hw => ha.firstCells hm hw) h1 hlen hlen'
  exact ⟨⟨_, _, h2, h _ _ _ _ h3 h4⟩⟩

def byteV (c : UInt8) : Value := .int .u8 c.toNat
/-- append(v, s...) of a string's bytes. -/
theorem St.appStr (hT : TOk P T0) {t u e ty : TypeId} {i iu ie : TI} (hi : tf T0 t = some i) (hk : i.k = .slice e 1) (hiu : tf T0 u = some iu) (hku : iu.k = .str) (hie : tf T0 e = some ie)
    (hz : ie.zero.cells.size = 1) {w0 w : World} {T : List Nat} {H L : Heap} {F : Heap → Heap} (hS : St w0 T H w) {a : Option Addr} {n cap : Nat} {xs : List Value} (hv : Vec e 1 a n cap xs L) [hc : Chunk H L F]
    {s : List UInt8} (hlen : (n + s.length) * ie.bytes ≤ 140737488355328) (hlen' : n + s.length ≤ 9223372036854775807) {K : Value → World → Prop}
    (h : ∀ a' cap' L' w', Vec e 1 a' (n + s.length) cap' (xs ++ s.map byteV) L' → St w0 T (F L') w' → K (.slice a' (n + s.length) cap') w') :
    RunG P (Builtin.append_ ⟨[t, u]⟩ ty ⟨[.slice a n cap, Str s]⟩) w K := by
  have hu := und_of hT hiu
  rw [hku] at hu
  obtain ⟨a', cap', L', w', h2, h3, h4⟩ := St.appCore (ty := ty) hT hi hk hie hz hS hv (news := s.map byteV) (m := s.length) (by simp) (x := Str s) (u := u) ⟨.string, hu, fun k h => by cases h⟩ (fun _ => rfl)
    (fun w' _ => by
      show Result.ok _ _ = _
      congr 1
      apply Array.ext'
      simp [ByteArray.data_extract]
      intro a _; rfl) (by simp [byteV, Value.oneCell']) hlen hlen'
  exact ⟨⟨_, _, h2, h _ _ _ _ h3 h4⟩⟩
end
end Go.Eng
