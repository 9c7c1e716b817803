/- Arguments of any shape, opened: what their cells say, and how much they are. -/
import Derived.Test.YtkncpdehgcldbaaDoorWrap
import Derived.Deep.Slices
namespace Go.Proofs.YtkncpdehgcldbaaDoor
open Go Go.Eng Go.Proofs
open Go.ChangeShapes Go.WideShapes Go.ChangeAt Go.RowKit

/-- What the cells of a type are, as read of a world. -/
abbrev CellR (β : Type) := World → List Value → β → Prop
structure Opens (P : Program) (t : TypeId) {β : Type} (R : CellR β) (bulk : β → Nat) : Prop where
  out : ∀ {H : Type} {enc : TypeId × Value → H} {W : World} {fuel : Nat} {cs : List Value} {x : DataW H × List MemPlace}, DataW.trod enc P W 0 (fun _ => true) true fuel t cs = some x → ∃ b, R W cs b ∧ bulk b ≤ Rows.uptoBulk x.1

def RStr : CellR Bytes := fun _ cs s => cs = [Str s] ∧ s.length ≤ maxLen
def RInt (k : IntKind) : CellR Int := fun _ cs n => cs = [.int k n] ∧ (Lit.int k n).wf = true
def RBool : CellR Bool := fun _ cs b => cs = [.bool b]
structure RSl {β : Type} (sz : Nat) (R : CellR β) (W : World) (cs : List Value) (xs : List β) : Prop where
  ex : ∃ (a : Option Addr) (cap : Nat), cs = [.slice a xs.length cap] ∧ xs.length ≤ cap ∧ cap ≤ maxLen ∧
    ∀ j (h : j < xs.length), ∃ b off cs', a = some ⟨b, off, none⟩ ∧ cs'.length = sz ∧ (∀ i v, cs'[i]? = some v → W.cell? ⟨b, off + (j * sz + i), none⟩ = some v) ∧ R W cs' xs[j]
def RPair {α β : Type} (n : Nat) (R : CellR α) (S : CellR β) : CellR (α × β) := fun W cs x => R W (cs.take n) x.1 ∧ S W (cs.drop n) x.2

theorem Opens.str {P : Program} {t : TypeId} (ht : P.underlying t = some .string) : Opens P t RStr (fun s => s.length + 1) := by
  refine ⟨fun {H enc W fuel cs x} h => ?_⟩
  obtain ⟨s, rfl, rfl, hs⟩ := DataW.trod_string ht h
  exact ⟨s.data.toList, ⟨by rw [Str_of], by rw [Array.length_toList]; exact hs⟩, Nat.le_refl _⟩
theorem Opens.int {P : Program} {t : TypeId} {k : IntKind} (ht : P.underlying t = some (.int k)) : Opens P t (RInt k) (fun _ => 1) := by
  refine ⟨fun {H enc W fuel cs x} h => ?_⟩
  obtain ⟨n, rfl, rfl, hs⟩ := DataW.trod_int ht h
  exact ⟨n, ⟨rfl, hs⟩, Nat.le_refl _⟩
theorem Opens.bool {P : Program} {t : TypeId} (ht : P.underlying t = some .bool) : Opens P t RBool (fun _ => 1) := by
  refine ⟨fun {H enc W fuel cs x} h => ?_⟩
  obtain ⟨n, rfl, rfl⟩ := DataW.trod_bool ht h
  exact ⟨n, rfl, Nat.le_refl _⟩
theorem bulk_range {H : Type} {β : Type} (bulk : β → Nat) : ∀ (xs : List β) (D : Nat → DataW H), (∀ j (h : j < xs.length), bulk xs[j] ≤ Rows.uptoBulk (D j)) → (xs.map bulk).sum ≤ Rows.uptoBulkAll ((List.range xs.length).map D)
  | [], _, _ => by simp
  | x :: r, D, h => by
    have ih := bulk_range bulk r (fun j => D (j + 1)) (fun j hj => h (j + 1) (by simpa using hj))
    have h0 := h 0 (by simp)
    rw [List.length_cons, List.range_succ_eq_map, List.map_cons, List.map_cons, List.map_map, List.sum_cons]
    simp only [Rows.uptoBulkAll]
    have : Function.comp D Nat.succ = fun j => D (j + 1) := rfl
    rw [this]
    simp only [List.getElem_cons_zero] at h0
    omega
theorem Opens.slice {P : Program} {t e : TypeId} {β : Type} {R : CellR β} {bulk : β → Nat} (ht : P.underlying t = some (.slice e)) {sz : Nat} (hc : P.cellsOf e = sz) (h0 : 0 < sz) (he : Opens P e R bulk) :
    Opens P t (RSl sz R) (fun xs => (xs.map bulk).sum + 1) := by
  refine ⟨fun {H enc W fuel cs x} h => ?_⟩
  rcases Go.Deep.open_slice ht h with ⟨rfl, rfl⟩ | ⟨a, len, cap, m, n, D, Pl, rfl, -, hl, hm, hmm, rfl, hx⟩
  · exact ⟨[], ⟨none, 0, rfl, Nat.le_refl _, by decide, fun j h => by simp at h⟩, by simp [Rows.uptoBulk]⟩
  rw [if_pos rfl] at hmm
  subst hmm
  rw [hc] at hx
  have hall : ∀ i, i < len → ∃ b : β, (∃ cs', W.cells? 0 (a.add (i * sz)) sz = some cs' ∧ R W cs' b) ∧ bulk b ≤ Rows.uptoBulk (D i) := by
    intro i hi
    obtain ⟨cs', h1, h2⟩ := hx i (by omega)
    obtain ⟨b, h3, h4⟩ := he.out h2
    exact ⟨b, ⟨cs', h1, h3⟩, h4⟩
  have hxs : ∃ xs : List β, xs.length = len ∧ ∀ i (hi : i < xs.length), (∃ cs', W.cells? 0 (a.add (i * sz)) sz = some cs' ∧ R W cs' xs[i]) ∧ bulk xs[i] ≤ Rows.uptoBulk (D i) := by
    clear h hx hl hm
    induction len with
    | zero => exact ⟨[], rfl, fun i hi => by simp at hi⟩
    | succ k ih =>
      obtain ⟨xs, hxl, hxs⟩ := ih (fun i hi => hall i (by omega))
      obtain ⟨b, hb⟩ := hall k (by omega)
      refine ⟨xs ++ [b], by simp [hxl], fun i hi => ?_⟩
      by_cases hik : i < xs.length
      · rw [List.getElem_append_left hik]; exact hxs i hik
      · have : i = k := by simp at hi; omega
        subst this
        rw [List.getElem_append_right (by omega)]
        simpa [hxl] using hb
  obtain ⟨xs, rfl, hxs⟩ := hxs
  refine ⟨xs, ⟨some a, _, rfl, hl, hm, fun j hj => ?_⟩, ?_⟩
  · obtain ⟨⟨cs', h1, h2⟩, -⟩ := hxs j hj
    obtain ⟨_, h3, h4⟩ := World.cells?_some h1
    obtain ⟨b, off, spot⟩ := a
    have hcell : ∀ i v, cs'[i]? = some v → W.cell? ((Addr.mk b off spot).add (j * sz + i)) = some v := by
      intro i v hv
      have := h4 i (by have := (List.getElem?_eq_some_iff.1 hv).1; omega)
      rw [hv] at this
      rwa [Go.Deep.add_add] at this
    have hspot : spot = none := by
      obtain ⟨⟨cs0, k1, -⟩, -⟩ := hxs 0 (by omega)
      obtain ⟨_, k3, k4⟩ := World.cells?_some k1
      have := k4 0 h0
      rw [List.getElem?_eq_getElem (show 0 < cs0.length by omega)] at this
      simpa [Addr.add] using World.cell?_spot this
    subst hspot
    refine ⟨b, off, cs', rfl, h3, fun i v hv => ?_, h2⟩
    have := hcell i v hv
    rwa [add_plain] at this
  · have := bulk_range bulk xs D (fun j hj => (hxs j hj).2)
    simp only [Rows.uptoBulk]
    omega
theorem Opens.pair {P : Program} {t : TypeId} {f0 f1 : Field} {α β : Type} {R : CellR α} {S : CellR β} {b0 : α → Nat} {b1 : β → Nat} (ht : P.underlying t = some (.struct #[f0, f1])) {s0 s1 : Nat} (o0 : f0.offset = 0) (o1 : f1.offset = s0)
    (c0 : P.cellsOf f0.type = s0) (c1 : P.cellsOf f1.type = s1) (ct : P.cellsOf t = s0 + s1) (h0 : Opens P f0.type R b0) (h1 : Opens P f1.type S b1) : Opens P t (RPair s0 R S) (fun x => b0 x.1 + b1 x.2 + 1) := by
  refine ⟨fun {H enc W fuel cs x} h => ?_⟩
  obtain ⟨xs, n, -, rfl, hl, hxl, hx⟩ := DataW.trod_struct ht h
  have e0 := hx 0 f0 rfl
  have e1 := hx 1 f1 rfl
  have hx2 : xs.length = 2 := by simpa using hxl
  rw [o0, c0, List.drop_zero] at e0
  rw [o1, c1, List.take_of_length_le (by rw [List.length_drop]; omega)] at e1
  rw [List.getElem?_eq_getElem (show 0 < xs.length by omega)] at e0
  rw [List.getElem?_eq_getElem (show 1 < xs.length by omega)] at e1
  obtain ⟨a, g0, g1⟩ := h0.out e0
  obtain ⟨b, g2, g3⟩ := h1.out e1
  refine ⟨(a, b), ⟨g0, g2⟩, ?_⟩
  match xs, hx2 with
  | [u, v], _ =>
    simp only [List.getElem_cons_zero, List.getElem_cons_succ] at g1 g3
    simp only [List.map_cons, List.map_nil, Rows.uptoBulk, Rows.uptoBulkAll]
    omega
/-- A struct's fields from the offset o on. -/
structure OpensFs (P : Program) (o : Nat) (fs : List Field) (sz : Nat) {β : Type} (R : CellR β) (bulk : β → Nat) : Prop where
  out : ∀ {H : Type} {enc : TypeId × Value → H} {W : World} {fuel : Nat} {cs : List Value} {xs : List (DataW H × List MemPlace)}, cs.length = sz → xs.length = fs.length →
    (∀ (i : Nat) (f : Field), fs[i]? = some f → DataW.trod enc P W 0 (fun _ => true) true fuel f.type ((cs.drop f.offset).take (P.cellsOf f.type)) = xs[i]?) → ∃ b, R W (cs.drop o) b ∧ bulk b ≤ Rows.uptoBulkAll (xs.map (·.1))
def RNil : CellR Unit := fun _ cs _ => cs = []
theorem OpensFs.nil {P : Program} {sz : Nat} : OpensFs P sz [] sz RNil (fun _ => 0) := by
  refine ⟨fun {H enc W fuel cs xs} h1 h2 h3 => ?_⟩
  refine ⟨(), ?_, Nat.zero_le _⟩
  show cs.drop sz = []
  rw [List.drop_eq_nil_iff]; omega
theorem OpensFs.cons {P : Program} {o s sz : Nat} {f : Field} {fs : List Field} {α β : Type} {R : CellR α} {S : CellR β} {b0 : α → Nat} {b1 : β → Nat} (ho : f.offset = o) (hc : P.cellsOf f.type = s) (h0 : Opens P f.type R b0) (h1 : OpensFs P (o + s) fs sz S b1) :
    OpensFs P o (f :: fs) sz (RPair s R S) (fun x => b0 x.1 + b1 x.2) := by
  refine ⟨fun {H enc W fuel cs xs} hl hx h => ?_⟩
  match xs, hx with
  | x :: xs, hx =>
    have e0 := h 0 f rfl
    rw [ho, hc] at e0
    obtain ⟨a, g0, g1⟩ := h0.out e0
    obtain ⟨b, g2, g3⟩ := h1.out hl (by simpa using hx) (fun i f' hf => by simpa using h (i + 1) f' (by simpa using hf))
    refine ⟨(a, b), ⟨g0, by rw [List.drop_drop]; exact g2⟩, ?_⟩
    simp only [List.map_cons, Rows.uptoBulkAll]
    omega
theorem Opens.struct {P : Program} {t : TypeId} {fs : List Field} {sz : Nat} {β : Type} {R : CellR β} {bulk : β → Nat} (ht : P.underlying t = some (.struct ⟨fs⟩)) (ct : P.cellsOf t = sz) (h : OpensFs P 0 fs sz R bulk) : Opens P t R (fun x => bulk x + 1) := by
  refine ⟨fun {H enc W fuel cs x} hx => ?_⟩
  obtain ⟨xs, n, -, rfl, hl, hxl, hx⟩ := DataW.trod_struct ht hx
  obtain ⟨b, g0, g1⟩ := h.out (by rw [hl, ct]) (by simpa using hxl) (fun i f hf => hx i f (by simpa using hf))
  refine ⟨b, by simpa using g0, ?_⟩
  simp only [Rows.uptoBulk]; omega
theorem RSl.inv {β : Type} {sz : Nat} {R : CellR β} {W : World} {v : Value} {xs : List β} (h : RSl sz R W [v] xs) : ∃ (a : Option Addr) (cap : Nat), v = .slice a xs.length cap ∧ xs.length ≤ cap ∧ cap ≤ maxLen ∧ RSl sz R W [.slice a xs.length cap] xs := by
  obtain ⟨a, cap, h1, h2, h3, h4⟩ := h.ex
  refine ⟨a, cap, by simpa using h1, h2, h3, ⟨a, cap, rfl, h2, h3, h4⟩⟩
theorem RSl.get {β : Type} {R : CellR β} {W : World} {a : Option Addr} {n cap : Nat} {xs : List β} (h : RSl 1 R W [.slice a n cap] xs) {j : Nat} (hj : j < xs.length) : ∃ b off v, a = some ⟨b, off, none⟩ ∧ W.cell? ⟨b, off + j, none⟩ = some v ∧ R W [v] xs[j] := by
  obtain ⟨a', cap', h1, -, -, h4⟩ := h.ex
  obtain ⟨b, off, cs, h5, h6, h7, h8⟩ := h4 j hj
  have : a = a' := by simpa using (List.cons.inj h1).1 |> fun h => (Value.slice.inj h).1
  subst this
  match cs, h6 with
  | [v], _ => exact ⟨b, off, v, h5, by simpa using h7 0 v rfl, h8⟩
theorem RSl.strs {W : World} {a : Option Addr} {n cap : Nat} {xs : List Bytes} (h : RSl 1 RStr W [.slice a n cap] xs) : Arr W [] a (xs.map Str) := by
  intro j x hj
  have hjl : j < xs.length := by have := (List.getElem?_eq_some_iff.1 hj).1; simpa using this
  obtain ⟨b, off, v, h1, h2, h3, -⟩ := h.get hjl
  refine ⟨b, off, h1, by simp, ?_⟩
  have : x = v := by
    rw [List.getElem?_map, List.getElem?_eq_getElem hjl] at hj
    simp at hj h3; rw [h3, ← hj]
  rw [this]; exact h2

theorem Trod.out {H : Type} {enc : TypeId × Value → H} {P : Program} {W : World} {t : TypeId} {v : Value} {d : DataW H} {p : List MemPlace} (hd : DataW.Trod enc P W 0 (fun _ => true) true t v d p) {β : Type} {R : CellR β} {bulk : β → Nat} (h : Opens P t R bulk) :
    ∃ b, R W v.cells.toList b ∧ bulk b ≤ Rows.uptoBulk d := by
  obtain ⟨fuel, hf⟩ := hd
  exact h.out hf
theorem bulk_SS (bss : List (List Bytes)) : ((bss.map fun ps => (ps.map fun s => s.length + 1).sum + 1).sum + 1) = sumLen bss.flatten + bss.flatten.length + bss.length + 1 := by
  have key : ∀ ps : List Bytes, (ps.map fun s => s.length + 1).sum = sumLen ps + ps.length := by
    intro ps
    induction ps with
    | nil => rfl
    | cons s r ih => simp only [sumLen, List.map_cons, List.sum_cons, List.length_cons] at ih ⊢; omega
  induction bss with
  | nil => rfl
  | cons ps r ih =>
    simp only [List.map_cons, List.sum_cons, List.flatten_cons, List.length_cons, List.length_append, key] at ih ⊢
    have : sumLen (ps ++ r.flatten) = sumLen ps + sumLen r.flatten := by simp [sumLen]
    omega
end Go.Proofs.YtkncpdehgcldbaaDoor
