/- From a contract (Cl) to the statement: arguments opened, post shut. -/
import Derived.Test.YtkncpdehgcldbaaDoorRows
import Derived.Test.YtkncpdehgcldbaaDoorTbl
import Derived.Test.YtkncpdehgcldbaaDoorBase
import Derived.WalkKit
import Derived.ProofKit
import Derived.OpenShut
import Derived.Carry
import Derived.SliceStrings
import Derived.JoinedCond
namespace Go.Proofs.YtkncpdehgcldbaaDoor
open Go Go.Eng Go.Proofs
open Go.ChangeShapes Go.WideShapes Go.ChangeAt Go.RowKit

theorem ownTry : ownKnob Tryd.prog.godebug = none := by kernel_rfl
theorem laidTry : laidOutB Tryd.prog = true := by kernel_rfl
theorem calls_of_cl {P : Program} {f : FuncId} {args : List Value} {w : World} {R : Value → World → Prop} (hc : ∀ (args : Array Value) (w : World), (callFunc f args).run P w = .ok (.enter f args) w)
    (h : Cl P f args w R) : Calls P f ⟨args⟩ w fun e w' => ∃ v, e = .returned v ∧ R v w' := by
  rcases h with ⟨_, h⟩ | ⟨v, w', h, _⟩
  · exact h
  · rw [hc] at h; cases h
theorem St.below {w w' : World} (h : St w [] [] w') : Below w.heap.size w w' := ⟨h.os, h.tape, h.output, h.size, fun k hk => h.old k hk (by simp)⟩
theorem trodAll_below {H : Type} {enc : TypeId × Value → H} {P : Program} (hl : laidOutB P = true) {W W' : World} (hb : Below W.heap.size W W') : ∀ {ts : List TypeId} {vs : List Value} {ds : List (DataW H)} {ps : List MemPlace},
    (ts.all fun t => P.readableRec t && decide (t < P.types.size)) = true → (∀ x ∈ ps, x.block < W.heap.size) → DataW.TrodAll enc P W 0 (fun _ => true) true ts vs ds ps →
    DataW.TrodAll enc P W' 0 (fun b => decide (b < W.heap.size)) true ts vs ds ps
  | [], [], [], _, _, _, h => h
  | t :: ts, v :: vs, d :: ds, ps, ht, hlt, ⟨p, q, h1, h2, e⟩ => by
    subst e
    simp only [List.all_cons, Bool.and_eq_true, decide_eq_true_eq] at ht
    exact ⟨p, q, Below.trod hl ht.1.1 ht.1.2 h1 hb (fun x hx => hlt x (by simp [hx])), trodAll_below hl hb (by simpa using ht.2) (fun x hx => hlt x (by simp [hx])) h2, rfl⟩
  | [], [], _ :: _, _, _, _, h => h.elim
  | [], _ :: _, _, _, _, _, h => h.elim
  | _ :: _, [], _, _, _, _, h => h.elim
  | _ :: _, _ :: _, [], _, _, _, h => h.elim

theorem post_true {H : Type} {enc : TypeId × Value → H} {P : Program} {f : Func} {s : ChangeSpec} {W W' : World} {args : Array Value} {ds gs : List (DataW H)} {before : List MemPlace} (hl : laidOutB P = true)
    (hts : (f.params.toList.all fun t => P.readableRec t && decide (t < P.types.size)) = true) {tb : TypeId} (hrt : f.resultTypes = #[tb]) (hb : P.underlying tb = some .bool)
    (hW : DataW.Whole enc P f.params.toList s.vars false W args.toList ds gs before) (hv : s.vars = []) (hfn : gs = [] → s.fn H (ds ++ gs) = { results := [.lit (.bool true)], args := ds }) (hst : St W [] [] W') :
    s.post enc P f false true false false W args (.bool true) W' := by
  have hW' := hW
  obtain ⟨p, q, hA, hV, rfl, _, _⟩ := hW
  rw [hv] at hV
  obtain ⟨rfl, rfl⟩ := trodVars_none hV
  have hlt : ∀ x ∈ p, x.block < W.heap.size := fun x hx => by have := hW'.lt x (by simp [hx]); simpa using this
  refine ⟨ds, [], _, [], p, [], hW', ?_, ?_, ?_, (St.below hst).frame _, fun h => by cases h⟩
  · rw [hfn rfl, hrt]
    exact trodAll_mk1 (shut_bool hb _)
  · rw [hfn rfl]
    exact trodAll_below hl (St.below hst) hts hlt hA
  · rw [hfn rfl, hv]
    rfl

theorem Str_of (s : ByteArray) : Value.string s = Str s.data.toList := by
  cases s; rfl
theorem bulk_strs {H : Type} : ∀ ss : List ByteArray, Rows.uptoBulkAll (strs (H := H) ss) = sumLen (ss.map (·.data.toList)) + ss.length
  | [] => rfl
  | s :: r => by
    have ih := bulk_strs (H := H) r
    simp only [strs, sumLen, List.map_cons, List.sum_cons, List.length_cons, Rows.uptoBulkAll, Rows.uptoBulk] at ih ⊢
    omega
theorem open_strsA {H : Type} {enc : TypeId × Value → H} {P : Program} {W : World} {r : Reach} {b0 : Nat} {t e : TypeId} {v : Value} {d : DataW H} {p : List MemPlace} (ht : P.underlying t = some (.slice e)) (he : P.underlying e = some .string) (hc : P.cellsOf e = 1)
    (hval : Value.okWide P W r b0 t v) (hd : DataW.Trod enc P W 0 (fun _ => true) true t v d p) :
    ∃ (a : Option Addr) (cap : Nat) (ps : List Bytes), v = .slice a ps.length cap ∧ ps.length ≤ cap ∧ cap ≤ maxLen ∧ Arr W [] a (ps.map Str) ∧ sumLen ps + cap + 1 ≤ Rows.uptoBulk d ∧ (∀ x ∈ ps, x.length ≤ maxLen) := by
  obtain ⟨a0, len, cap, rfl⟩ := okWide_slice ht hval
  obtain ⟨fuel, hf⟩ := hd
  rcases open_strings ht he hc hf with ⟨hcs, hx⟩ | ⟨a, len', cap', ss, hcs, _, hl, hm, hz, hx, hcell, hsz⟩
  · simp [Value.cells] at hcs
    obtain ⟨rfl, rfl, rfl⟩ := hcs
    simp only [Prod.mk.injEq] at hx
    obtain ⟨rfl, rfl⟩ := hx
    exact ⟨none, 0, [], rfl, Nat.le_refl _, by decide, Arr.nil _ _ _, by simp [sumLen, Rows.uptoBulk], by simp⟩
  · simp [Value.cells] at hcs
    obtain ⟨rfl, rfl, rfl⟩ := hcs
    simp only [Prod.mk.injEq] at hx
    obtain ⟨rfl, rfl⟩ := hx
    simp only [if_true] at hz
    have hlen : ((ss.take len).map (·.data.toList)).length = len := by simp; omega
    refine ⟨some a, cap, (ss.take len).map (·.data.toList), by rw [hlen], by rw [hlen]; exact hl, hm, ?_, ?_, ?_⟩
    · intro j x hj
      have hjl : j < len := by
        have := (List.getElem?_eq_some_iff.1 hj).1
        simp at this; omega
      have hcj := hcell j (by omega)
      obtain ⟨b, off, spot⟩ := a
      have hspot : spot = none := by simpa [Addr.add] using World.cell?_spot (hcell 0 (by omega))
      subst hspot
      refine ⟨b, off, rfl, by simp, ?_⟩
      rw [add_plain] at hcj
      rw [hcj]
      have : x = Str (ss.getD j ByteArray.empty).data.toList := by
        have hjs : j < ss.length := by omega
        simp [hjl, hjs] at hj
        simp [List.getD_eq_getElem?_getD, hjs, ← hj]
      rw [this, Str_of]
    · have e1 := bulk_strs (H := H) (ss.take len)
      have e2 := bulk_strs (H := H) (ss.drop len)
      simp only [Rows.uptoBulk, e1, e2, List.length_take, List.length_drop]
      omega
    · intro x hx
      obtain ⟨s, hs, rfl⟩ := List.mem_map.1 hx
      rw [Array.length_toList]
      exact hsz s (List.mem_of_mem_take hs)
theorem open_intsA {H : Type} {enc : TypeId × Value → H} {P : Program} {W : World} {r : Reach} {b0 : Nat} {t e : TypeId} {v : Value} {d : DataW H} {p : List MemPlace} (ht : P.underlying t = some (.slice e)) (he : P.underlying e = some (.int .i64)) (hc : P.cellsOf e = 1)
    (hval : Value.okWide P W r b0 t v) (hd : DataW.Trod enc P W 0 (fun _ => true) true t v d p) :
    ∃ (a : Option Addr) (cap : Nat) (zs : List Int), v = .slice a zs.length cap ∧ zs.length ≤ cap ∧ cap ≤ maxLen ∧ Arr W [] a (zs.map intV) ∧ cap + 1 ≤ Rows.uptoBulk d ∧ (∀ x ∈ zs, -9223372036854775808 ≤ x ∧ x ≤ 9223372036854775807) := by
  obtain ⟨a0, len, cap, rfl⟩ := okWide_slice ht hval
  obtain ⟨fuel, hf⟩ := hd
  rcases open_ints ht he hc hf with ⟨hcs, hx⟩ | ⟨a, len', cap', ss, hcs, _, hl, hm, hz, hx, hcell, hsz⟩
  · simp [Value.cells] at hcs
    obtain ⟨rfl, rfl, rfl⟩ := hcs
    simp only [Prod.mk.injEq] at hx
    obtain ⟨rfl, rfl⟩ := hx
    exact ⟨none, 0, [], rfl, Nat.le_refl _, by decide, Arr.nil _ _ _, by simp [Rows.uptoBulk], by simp⟩
  · simp [Value.cells] at hcs
    obtain ⟨rfl, rfl, rfl⟩ := hcs
    simp only [Prod.mk.injEq] at hx
    obtain ⟨rfl, rfl⟩ := hx
    simp only [if_true] at hz
    have hlen : (ss.take len).length = len := by simp; omega
    refine ⟨some a, cap, ss.take len, by rw [hlen], by rw [hlen]; exact hl, hm, ?_, ?_, ?_⟩
    · intro j x hj
      have hjl : j < len := by
        have := (List.getElem?_eq_some_iff.1 hj).1
        simp at this; omega
      have hcj := hcell j (by omega)
      obtain ⟨b, off, spot⟩ := a
      have hspot : spot = none := by simpa [Addr.add] using World.cell?_spot (hcell 0 (by omega))
      subst hspot
      refine ⟨b, off, rfl, by simp, ?_⟩
      rw [add_plain] at hcj
      rw [hcj]
      have : x = intV (ss.getD j 0) := by
        have hjs : j < ss.length := by omega
        simp [hjl, hjs] at hj
        simp [List.getD_eq_getElem?_getD, hjs, ← hj]
      rw [this]; rfl
    · have e1 : ∀ l : List Int, Rows.uptoBulkAll (lits (H := H) .i64 l) = l.length := by
        intro l
        induction l with
        | nil => rfl
        | cons x r ih => simp only [lits, List.map_cons, Rows.uptoBulkAll, Rows.uptoBulk, List.length_cons] at ih ⊢; omega
      simp only [Rows.uptoBulk, e1, List.length_take, List.length_drop]
      omega
    · intro x hx
      have := hsz x (List.mem_of_mem_take hx)
      simpa [Lit.wf, IntKind.min, IntKind.max, IntKind.signed, IntKind.bits] using this
theorem bulk1 {H : Type} {d1 : DataW H} (h : Rows.uptoSmall H [d1] = true) : Rows.uptoBulk d1 ≤ 1048576 := by
  have h : Rows.uptoBulkAll [d1] ≤ 1048576 := of_decide_eq_true h
  simp only [Rows.uptoBulkAll] at h; omega
theorem bulk2 {H : Type} {d1 d2 : DataW H} (h : Rows.uptoSmall H [d1, d2] = true) : Rows.uptoBulk d1 + Rows.uptoBulk d2 ≤ 1048576 := by
  have h : Rows.uptoBulkAll [d1, d2] ≤ 1048576 := of_decide_eq_true h
  simp only [Rows.uptoBulkAll] at h; omega
theorem bulk3 {H : Type} {d1 d2 d3 : DataW H} (h : Rows.uptoSmall H [d1, d2, d3] = true) : Rows.uptoBulk d1 + Rows.uptoBulk d2 + Rows.uptoBulk d3 ≤ 1048576 := by
  have h : Rows.uptoBulkAll [d1, d2, d3] ≤ 1048576 := of_decide_eq_true h
  simp only [Rows.uptoBulkAll] at h; omega
end Go.Proofs.YtkncpdehgcldbaaDoor
