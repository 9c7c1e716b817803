/- Regions that draw their order, with several effects: a class of worlds that all but the last keep. -/
import Derived.Test.YtklppplnkpnbhaaDoorDrawR
namespace Go.Eng
open Go

section
variable {P : Program} {ops : Array Oper} {Q : Exit → Act → World → Prop} {md : Region.Mode} {S : Nat → World → World → Prop}
theorem wpAnyR_firstC {C : World → Prop} {n i : Nat} {oi : Oper} {v : Value} (hi : ops[i]? = some oi) (hsel : ∀ (j : Nat) (o : Oper) cs b, ops[j]? = some o → o.op ≠ .select cs b)
    (hQ : ∀ c a w, Q (.panic c) (a.put oi.dst v) w → Q (.panic c) a w) (hSi : ∀ w, C w → S i w w) :
    ∀ (fuel : Nat) (listed : Array Bool) (a : Act) (w : World), Closed ops listed →
      (∀ j oj, ops[j]? = some oj → j ≠ i → listed.getD j true = false → dep ops n j i = false → oi.apart ops oj = true ∧ ∀ w1 w2, C w1 → S j w1 w2 → C w2) →
      i ∈ Region.ready .any ops listed → YieldsIf P ops C oi v a → C w →
      wpAnyR P .any ops Q S fuel (listed.setIfInBounds i true) (a.put oi.dst v) w → wpAnyR P .any ops Q S (fuel + 1) listed a w := by
  intro fuel
  induction fuel with
  | zero =>
    intro listed a w _ _ hr hy hS H
    refine ⟨fun h => (by rw [h] at hr; cases hr), fun j hj => ?_⟩
    by_cases hji : j = i
    · subst hji; exact hy.wpOp hi hS ⟨hSi _ hS, H⟩
    · have := ready_mono hj hji
      rw [H.1] at this
      cases this
  | succ fuel ih =>
    intro listed a w hcl hfree hr hy hS H
    refine ⟨fun h => (by rw [h] at hr; cases hr), fun j hj => ?_⟩
    by_cases hji : j = i
    · subst hji; exact hy.wpOp hi hS ⟨hSi _ hS, H⟩
    · have h1 := H.2 j (ready_mono hj hji)
      obtain ⟨hjun, oj, hoj, hall⟩ := mem_ready.1 hj
      have hnot := ready_not_dep (n := n) hcl (mem_ready.1 hr).1 hj
      obtain ⟨hap, hkeep⟩ := hfree j oj hoj hji hjun hnot
      have h2 := wpOp_putIf hoj hap (fun cs b => hsel i oi cs b hi) (fun cs b => hsel j oj cs b hoj) hQ hy h1
      have hfree' : ∀ k ok, ops[k]? = some ok → k ≠ i → (listed.setIfInBounds j true).getD k true = false →
          dep ops n k i = false → oi.apart ops ok = true ∧ ∀ w1 w2, C w1 → S k w1 w2 → C w2 := fun k ok hk hki hun hno => by
        refine hfree k ok hk hki ?_ hno
        by_cases hjk : j = k
        · subst hjk; exact hjun
        · rw [getD_set_ne true hjk] at hun; exact hun
      refine wpOp_mono (fun a' w' h3 => ⟨h3.2.1, ih (listed.setIfInBounds j true) a' w' (hcl.set hj) hfree' (ready_mono hr (Ne.symm hji)) h3.1 (hkeep _ _ hS h3.2.1) ?_⟩) h2
      rw [Array.setIfInBounds_comm _ _ hji]
      exact h3.2.2
end
def classS (C : World → Prop) (fin : List Nat) (i : Nat) (_w w' : World) : Prop := i ∈ fin ∨ C w'
/-- What is left of a region that draws its order. -/
structure DrawK (P : Program) (T : Tbl) (N : Nat) (all : List Oper) (C : World → Prop) (fin : List Nat) (Q : Exit → Env → World → Prop) (n : Nat) (listed : Array Bool) (e : Env) (w : World) : Prop where
  out : ∀ a, Closed ⟨all⟩ listed → Rel N e a → wpAnyR P .any ⟨all⟩ (lift N Q) (classS C fin) n listed a w
def vcK (P : Program) (T : Tbl) (N : Nat) (all : List Oper) (C : World → Prop) (fin : List Nat) (Q : Exit → Env → World → Prop) (n : Nat) : List Nat → Array Bool → Env → World → Prop
  | [], listed, e, w => DrawK P T N all C fin Q n listed e w
  | i :: r, listed, e, w => atK all i fun o => grdG all o.guard e
    (fun e => match kind T o.op with
      | .pure => pureG P T e o.op fun v => putE N o.dst v e fun e' => vcK P T N all C fin Q n r (listed.setIfInBounds i true) e' w
      | .read => readG P T e C o fun v => putE N o.dst v e fun e' => vcK P T N all C fin Q n r (listed.setIfInBounds i true) e' w
      | .eff => False)
    (fun e => putE N o.dst undef e fun e' => vcK P T N all C fin Q n r (listed.setIfInBounds i true) e' w)
section
variable {P : Program} {T : Tbl} (hT : TOk P T) {N : Nat} {all : List Oper} {C : World → Prop} {fin : List Nat} {Q : Exit → Env → World → Prop}
include hT
theorem DrawK.takes (hsel : Region.noSelect ⟨all⟩ = true) (n : Nat) : ∀ (is : List Nat) {listed : Array Bool} {e : Env} {w : World} (_h : takesOK ⟨all⟩ (kind T) fin is listed = true) (_hC : C w) (_g : vcK P T N all C fin Q n is listed e w), DrawK P T N all C fin Q (n + is.length) listed e w
  | [], _, _, _, _, _, g => g
  | i :: r, listed, e, w, h, hCw, g => by
    refine ⟨fun a hcl hr => ?_⟩
    simp only [takesOK, Bool.and_eq_true] at h
    obtain ⟨h1, h2⟩ := h
    obtain ⟨o, ho, g⟩ := atK_iff g
    have ho' : (Array.mk all)[i]? = some o := by simpa using ho
    unfold takeOK at h1
    simp only [ho', Bool.and_eq_true] at h1
    obtain ⟨⟨⟨⟨hk, hrd⟩, hf⟩, hnf⟩, hw⟩ := h1
    have hready : i ∈ Region.ready .any ⟨all⟩ listed := by simpa using hrd
    have key : ∀ (v : Value) (e' : Env), YieldsIf P ⟨all⟩ C o v a → Rel N e' (a.put o.dst v) → vcK P T N all C fin Q n r (listed.setIfInBounds i true) e' w →
        wpAnyR P .any ⟨all⟩ (lift N Q) (classS C fin) (n + (i :: r).length) listed a w := by
      intro v e' hy hr' hv
      rw [List.length_cons, ← Nat.add_assoc]
      refine wpAnyR_firstC (C := C) (n := all.length) ho' (Region.noSelect_spec hsel) (fun c a w h => h.elim) (fun w hw => .inr hw) (n + r.length) listed a w hcl ?_ hready hy hCw ?_
      · intro j oj hj hne hun hd
        have hjlt : j < all.length := by have := (Array.getElem?_eq_some_iff.1 hj).1; simpa using this
        simp only [free', ho', List.all_eq_true, List.mem_range] at hf
        have h1 := hf j (by simpa using hjlt)
        have hd' : dep ⟨all⟩ (Array.mk all).size j i = false := hd
        simp only [hj, Bool.or_eq_true, beq_iff_eq, hne, false_or, hun, hd', Bool.false_eq_true] at h1
        refine ⟨h1, fun w1 w2 hw1 hw2 => ?_⟩
        rcases hw2 with hw2 | hw2
        · simp only [finWait, List.all_eq_true] at hw
          have h3 := hw j hw2
          simp only [Bool.or_eq_true, beq_iff_eq, hne, false_or, hun, hd', Bool.false_eq_true] at h3
        · exact hw2
      · exact (DrawK.takes hsel n r h2 hCw hv).out _ (hcl.set hready) hr'
    rcases grdG_iff hr g with ⟨e1, h1, h2, h3⟩ | ⟨e1, h1, h2, h3⟩
    · cases hk' : kind T o.op <;> simp only [hk'] at h3 hk
      case pure =>
        obtain ⟨v, h4, h5⟩ := pureG_sound hT h1 h3
        obtain ⟨e', h6, h7⟩ := putE_iff h4 h1
        exact key v e' (.inl ⟨h2, fun w _ => h5 w⟩) h6 h7
      case read =>
        obtain ⟨v, h4, h5⟩ := readG_sound hT h1 h3
        obtain ⟨e', h6, h7⟩ := putE_iff h4 h1
        exact key v e' (.inl ⟨h2, fun w hw => h5 w hw⟩) h6 h7
    · obtain ⟨e', h6, h7⟩ := putE_iff h3 h1
      exact key undef e' (.inr ⟨h2, rfl⟩) h6 h7
/-- Whatever may come up now. -/
theorem DrawK.alt {n : Nat} {listed : Array Bool} {e : Env} {w : World} (j : Nat) (js : List Nat) (h : Region.ready .any ⟨all⟩ listed = j :: js) (hC : C w)
    (g : allP (j :: js) fun i => atK all i fun o => grdG all o.guard e
      (fun e => match kind T o.op with
        | .pure => pureG P T e o.op fun v => putE N o.dst v e fun e' => DrawK P T N all C fin Q n (listed.setIfInBounds i true) e' w
        | .read => readG P T e C o fun v => putE N o.dst v e fun e' => DrawK P T N all C fin Q n (listed.setIfInBounds i true) e' w
        | .eff => effG P T e o w fun v w' => (match fin.elem i with
          | true => putE N o.dst v e fun e' => DrawK P T N all C fin Q n (listed.setIfInBounds i true) e' w'
          | false => Chk (C w') (putE N o.dst v e fun e' => DrawK P T N all C fin Q n (listed.setIfInBounds i true) e' w')))
      (fun e => putE N o.dst undef e fun e' => DrawK P T N all C fin Q n (listed.setIfInBounds i true) e' w)) : DrawK P T N all C fin Q (n + 1) listed e w := by
  refine ⟨fun a hcl hr => ⟨fun h0 => (by rw [h] at h0; cases h0), fun i hi => ?_⟩⟩
  have hcl' := hcl.set hi
  rw [h] at hi
  obtain ⟨o, ho, g⟩ := atK_iff (allP_mem g i hi)
  have ho' : (Array.mk all)[i]? = some o := by simpa using ho
  rcases grdG_iff hr g with ⟨e1, h1, h2, h3⟩ | ⟨e1, h1, h2, h3⟩
  · unfold wpOp
    simp only [ho', h2, if_true]
    refine .inl ?_
    cases hk : kind T o.op <;> simp only [hk] at h3
    case pure =>
      obtain ⟨v, h4, h5⟩ := pureG_sound hT h1 h3
      obtain ⟨e', h6, h7⟩ := putE_iff h4 h1
      exact Oper.wp_value (h5 w) ⟨.inr hC, h7.out _ hcl' h6⟩
    case read =>
      obtain ⟨v, h4, h5⟩ := readG_sound hT h1 h3
      obtain ⟨e', h6, h7⟩ := putE_iff h4 h1
      exact Oper.wp_value (h5 w hC) ⟨.inr hC, h7.out _ hcl' h6⟩
    case eff =>
      refine effG_sound hT h1 h3 fun v w' hk' => ?_
      cases hf : fin.elem i <;> rw [hf] at hk'
      · obtain ⟨e', h6, h7⟩ := putE_iff hk'.q h1
        exact ⟨.inr hk'.p, h7.out _ hcl' h6⟩
      · obtain ⟨e', h6, h7⟩ := putE_iff hk' h1
        exact ⟨.inl (by simpa using hf), h7.out _ hcl' h6⟩
  · obtain ⟨e', h6, h7⟩ := putE_iff h3 h1
    unfold wpOp
    simp only [ho', h2, Bool.false_eq_true, if_false]
    exact ⟨.inr hC, h7.out _ hcl' h6⟩
omit hT in
theorem DrawK.done {n : Nat} {listed : Array Bool} {e : Env} {w : World} (h : Region.ready .any ⟨all⟩ listed = []) (hk : Q .normal e w) : DrawK P T N all C fin Q n listed e w := by
  refine ⟨fun a _ hr => ?_⟩
  cases n with
  | zero => exact ⟨h, e, hr, hk⟩
  | succ n => exact ⟨fun _ => ⟨e, hr, hk⟩, fun i hi => by rw [h] at hi; cases hi⟩
end
theorem SemW.drawC {P : Program} {T : Tbl} (_hT : TOk P T) {N : Nat} {all : List Oper} {Q : Exit → Env → World → Prop} {id : Nat} {e : Env} {w : World} (hm : P.follows .mixedOrders = true) (C : World → Prop) (fin : List Nat) (h : DrawK P T N all C fin Q all.length (Array.replicate (Array.mk all).size false) e w.drew) : StopW P N (.region id ⟨all⟩ true) Q e w :=
  ⟨fun a hr => wp_region_any hm (wpAny_of_R _ _ _ _ (h.out a (by
    intro j oj _ hl
    simp only [Array.getD_eq_getD_getElem?, Array.getElem?_replicate] at hl
    split at hl <;> simp at hl) hr))⟩
/-- The ways through a piece of code meet again. -/
def mtQ (K : Env → World → Prop) : Exit → Env → World → Prop
  | .normal, e, w => K e w
  | _, _, _ => False
theorem StopW.meet {P : Program} {N : Nat} {c y : Code} {Q1 Q2 : Exit → Env → World → Prop} {e : Env} {w : World} {ι : Type} (I : ι → Env) (J : ι → World → Prop)
    (h : StopW P N c (mtQ fun e' w' => ∃ i, subG (I i) e' ∧ J i w') e w) (hy : ∀ i w', J i w' → SemW P N y Q1 (I i) w') : StopW P N c (thenQ (SemW P N y Q1) Q2) e w := by
  refine ⟨h.out.mono fun ex e' w' hq => ?_⟩
  cases ex with
  | normal =>
    obtain ⟨i, h1, h2⟩ := hq
    exact SemW.weaken h1 (hy i w' h2)
  | _ => exact hq.elim
end Go.Eng
