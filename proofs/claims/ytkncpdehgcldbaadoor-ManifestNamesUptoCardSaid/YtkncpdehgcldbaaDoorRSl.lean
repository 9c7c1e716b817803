/- Slices that are handed in: their structs, loaded. -/
import Derived.Test.YtkncpdehgcldbaaDoorOpen
namespace Go.Proofs.YtkncpdehgcldbaaDoor
open Go Go.Eng Go.Proofs
/-- The j-th struct of a slice that was handed in. -/
theorem RSl.at {β : Type} {sz : Nat} {R : CellR β} {W : World} {a : Option Addr} {n cap : Nat} {xs : List β} (h : RSl sz R W [.slice a n cap] xs) {j : Nat} (hj : j < xs.length) :
    ∃ b off cs, a = some ⟨b, off, none⟩ ∧ cs.length = sz ∧ (∀ i v, cs[i]? = some v → W.cell? ⟨b, off + (j * sz + i), none⟩ = some v) ∧ R W cs xs[j] := by
  obtain ⟨a', cap', h1, -, -, h4⟩ := h.ex
  have : a = a' := by simpa using (List.cons.inj h1).1 |> fun h => (Value.slice.inj h).1
  subst this
  exact h4 j hj
/-- What was handed in stays. -/
theorem RSl.keep {β : Type} {sz : Nat} {R : CellR β} {w0 w : World} {H : Heap} (hS : St w0 [] H w) (hR : ∀ cs x, R w0 cs x → R w cs x) {cs : List Value} {xs : List β} (h : RSl sz R w0 cs xs) : RSl sz R w cs xs := by
  obtain ⟨a, cap, h1, h2, h3, h4⟩ := h.ex
  refine ⟨a, cap, h1, h2, h3, fun j hj => ?_⟩
  obtain ⟨b, off, cs', h5, h6, h7, h8⟩ := h4 j hj
  exact ⟨b, off, cs', h5, h6, fun i v hv => hS.oldCell (by simp) (h7 i v hv), hR _ _ h8⟩
/-- The j-th struct of a slice that was handed in, loaded. -/
theorem RSl.ldn {β : Type} {sz : Nat} {R : CellR β} {w0 w : World} {H : Heap} (hS : St w0 [] H w) {a : Option Addr} {n cap : Nat} {xs : List β} (h : RSl sz R w0 [.slice a n cap] xs) {j : Nat} (hj : j < xs.length) :
    ∃ b off cs, a = some ⟨b, off, none⟩ ∧ R w0 cs xs[j] ∧ ∀ K : List Value → Prop, K cs → LdN (fun w' => w = w') sz b (off + j * sz) K := by
  obtain ⟨b, off, cs, h1, h2, h3, h4⟩ := h.at hj
  refine ⟨b, off, cs, h1, h4, fun K hK => ⟨⟨cs, h2, fun _ e i v hv => ?_, hK⟩⟩⟩
  subst e
  have := hS.oldCell (by simp) (h3 i v hv)
  rw [← Nat.add_assoc] at this
  exact this
/-- The j-th struct of a slice that was handed in, loaded in any world of a class. -/
theorem RSl.ldnC {β : Type} {sz : Nat} {R : CellR β} {w0 : World} {a : Option Addr} {n cap : Nat} {xs : List β} (h : RSl sz R w0 [.slice a n cap] xs) {j : Nat} (hj : j < xs.length) :
    ∃ b off cs, a = some ⟨b, off, none⟩ ∧ R w0 cs xs[j] ∧ ∀ K : List Value → Prop, K cs → LdN (fun w' => St w0 [] [] w') sz b (off + j * sz) K := by
  obtain ⟨b, off, cs, h1, h2, h3, h4⟩ := h.at hj
  refine ⟨b, off, cs, h1, h4, fun K hK => ⟨⟨cs, h2, fun _ e i v hv => ?_, hK⟩⟩⟩
  have := e.oldCell (by simp) (h3 i v hv)
  rw [← Nat.add_assoc] at this
  exact this
theorem RSl.mem {β : Type} {sz : Nat} {R : CellR β} {W : World} {v : Value} {xs : List β} (h : RSl sz R W [v] xs) {x : β} (hx : x ∈ xs) : ∃ cs, R W cs x := by
  obtain ⟨a, cap, -, -, -, h4⟩ := h.ex
  obtain ⟨i, hi, rfl⟩ := List.mem_iff_getElem.1 hx
  obtain ⟨b, off, cs, -, -, -, h8⟩ := h4 i hi
  exact ⟨cs, h8⟩
theorem Opens.map {P : Program} {t : TypeId} {β γ : Type} {R : CellR β} {S : CellR γ} {bk : β → Nat} {bk' : γ → Nat} (h : Opens P t R bk) (f : β → γ) (hf : ∀ W cs x, R W cs x → S W cs (f x)) (hb : ∀ x, bk' (f x) ≤ bk x) : Opens P t S bk' := by
  refine ⟨fun {H enc W fuel cs x} hx => ?_⟩
  obtain ⟨b, h1, h2⟩ := h.out hx
  exact ⟨f b, hf _ _ _ h1, Nat.le_trans (hb b) h2⟩
def i64b (n : Int) : Prop := -9223372036854775808 ≤ n ∧ n ≤ 9223372036854775807
theorem wf_i64b {n : Int} (h : (Lit.int .i64 n).wf = true) : i64b n := by
  unfold i64b; simpa [Lit.wf, IntKind.min, IntKind.max, IntKind.signed, IntKind.bits] using h
theorem wf_u8b {n : Int} (h : (Lit.int .u8 n).wf = true) : 0 ≤ n ∧ n ≤ 255 := by
  simpa [Lit.wf, IntKind.min, IntKind.max, IntKind.signed, IntKind.bits] using h
/-- The first cell, and the rest. -/
theorem take1' {cs : List Value} {x : Value} (h : cs.take 1 = [x]) : cs = x :: cs.drop 1 := by
  conv => lhs; rw [← List.take_append_drop 1 cs, h]
  rfl
theorem pair_int {k : IntKind} {β : Type} {S : CellR β} {W : World} {cs : List Value} {x : Int × β} (h : RPair 1 (RInt k) S W cs x) : cs = .int k x.1 :: cs.drop 1 ∧ (Lit.int k x.1).wf = true ∧ S W (cs.drop 1) x.2 :=
  ⟨take1' h.1.1, h.1.2, h.2⟩
theorem pair_bool {β : Type} {S : CellR β} {W : World} {cs : List Value} {x : Bool × β} (h : RPair 1 RBool S W cs x) : cs = .bool x.1 :: cs.drop 1 ∧ S W (cs.drop 1) x.2 :=
  ⟨take1' h.1, h.2⟩
theorem pair_str {β : Type} {S : CellR β} {W : World} {cs : List Value} {x : Bytes × β} (h : RPair 1 RStr S W cs x) : cs = Str x.1 :: cs.drop 1 ∧ S W (cs.drop 1) x.2 :=
  ⟨take1' h.1.1, h.2⟩
theorem pair_sl {α β : Type} {sz : Nat} {R : CellR α} {S : CellR β} {W : World} {cs : List Value} {x : List α × β} (h : RPair 1 (RSl sz R) S W cs x) : ∃ v, cs = v :: cs.drop 1 ∧ RSl sz R W [v] x.1 ∧ S W (cs.drop 1) x.2 := by
  obtain ⟨a, cap, h1, -⟩ := h.1.ex
  refine ⟨_, take1' h1, ?_, h.2⟩
  rw [← h1]; exact h.1
end Go.Proofs.YtkncpdehgcldbaaDoor
