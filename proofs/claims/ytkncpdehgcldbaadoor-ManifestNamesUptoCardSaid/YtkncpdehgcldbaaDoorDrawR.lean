/- Regions that draw their order, with several effects that only make new memory. -/
import Derived.Test.YtkncpdehgcldbaaDoorDraw
namespace Go.Eng
open Go

section
variable {P : Program} {ops : Array Oper} {Q : Exit → Act → World → Prop} {md : Region.Mode} {S : Nat → World → World → Prop}
/-- Whatever order is picked from here on; operation number i leads from w to w' only as S i says. -/
def wpAnyR (P : Program) (md : Region.Mode) (ops : Array Oper) (Q : Exit → Act → World → Prop) (S : Nat → World → World → Prop) : Nat → Array Bool → Act → World → Prop
  | 0, listed, a, w => Region.ready md ops listed = [] ∧ Q .normal a w
  | fuel + 1, listed, a, w =>
    (Region.ready md ops listed = [] → Q .normal a w) ∧
    ∀ i ∈ Region.ready md ops listed, wpOp P ops Q i (fun a' w' => S i w w' ∧ wpAnyR P md ops Q S fuel (listed.setIfInBounds i true) a' w') a w
theorem wpAny_of_R : ∀ (fuel : Nat) (listed : Array Bool) (a : Act) (w : World), wpAnyR P md ops Q S fuel listed a w → wpAny P md ops Q fuel listed a w
  | 0, _, _, _, h => h
  | fuel + 1, _, _, _, h => ⟨h.1, fun i hi => wpOp_mono (fun a' w' h' => wpAny_of_R fuel _ a' w' h'.2) (h.2 i hi)⟩
theorem wpAnyR_first {C : World → Prop} {n i : Nat} {oi : Oper} {v : Value} (hi : ops[i]? = some oi) (hsel : ∀ (j : Nat) (o : Oper) cs b, ops[j]? = some o → o.op ≠ .select cs b)
    (hQ : ∀ c a w, Q (.panic c) (a.put oi.dst v) w → Q (.panic c) a w) (hSi : ∀ w, S i w w) :
    ∀ (fuel : Nat) (listed : Array Bool) (a : Act) (w : World), Closed ops listed →
      (∀ j oj, ops[j]? = some oj → j ≠ i → listed.getD j true = false → dep ops n j i = false → oi.apart ops oj = true ∧ ∀ w1 w2, C w1 → S j w1 w2 → C w2) →
      i ∈ Region.ready .any ops listed → YieldsIf P ops C oi v a → C w →
      wpAnyR P .any ops Q S fuel (listed.setIfInBounds i true) (a.put oi.dst v) w → wpAnyR P .any ops Q S (fuel + 1) listed a w := by
  intro fuel
  induction fuel with
  | zero =>
    intro listed a w _ _ hr hy hS H
    refine ⟨fun h => (by rw [h] at hr; cases hr), fun j hj => ?_⟩
    by_cases hji : j = i
    · subst hji; exact hy.wpOp hi hS ⟨hSi _, H⟩
    · have := ready_mono hj hji
      rw [H.1] at this
      cases this
  | succ fuel ih =>
    intro listed a w hcl hfree hr hy hS H
    refine ⟨fun h => (by rw [h] at hr; cases hr), fun j hj => ?_⟩
    by_cases hji : j = i
    · subst hji; exact hy.wpOp hi hS ⟨hSi _, H⟩
    · have h1 := H.2 j (ready_mono hj hji)
      obtain ⟨hjun, oj, hoj, hall⟩ := mem_ready.1 hj
      have hnot := ready_not_dep (n := n) hcl (mem_ready.1 hr).1 hj
      obtain ⟨hap, hkeep⟩ := hfree j oj hoj hji hjun hnot
      have h2 := wpOp_putIf hoj hap (fun cs b => hsel i oi cs b hi) (fun cs b => hsel j oj cs b hoj) hQ hy h1
      have hfree' : ∀ k ok, ops[k]? = some ok → k ≠ i → (listed.setIfInBounds j true).getD k true = false →
          dep ops n k i = false → oi.apart ops ok = true ∧ ∀ w1 w2, C w1 → S k w1 w2 → C w2 := fun k ok hk hki hun hno => by
        refine hfree k ok hk hki ?_ hno
        by_cases hjk : j = k
        · subst hjk; exact hjun
        · rw [getD_set_ne true hjk] at hun; exact hun
      refine wpOp_mono (fun a' w' h3 => ⟨h3.2.1, ih (listed.setIfInBounds j true) a' w' (hcl.set hj) hfree' (ready_mono hr (Ne.symm hji)) h3.1 (hkeep _ _ hS h3.2.1) ?_⟩) h2
      rw [Array.setIfInBounds_comm _ _ hji]
      exact h3.2.2
end
/-- Nothing but new memory has been made. -/
abbrev Grew (w w' : World) : Prop := St w [] [] w'
theorem Grew.refl (w : World) : Grew w w := St.start w
theorem Grew.trans {w w1 w2 : World} (h : Grew w w1) (h' : Grew w1 w2) : Grew w w2 := St.call0 h h'

def grewS (fin : List Nat) (i : Nat) (w w' : World) : Prop := i ∈ fin ∨ Grew w w'
theorem St.alG {w0 w : World} {T : List Nat} {H : Heap} (hS : St w0 T H w) {o : Obj} {K : Nat → World → Prop} (h : ∀ b w', Grew w w' → St w0 T ((b, o) :: H) w' → K b w') : AllG w o K :=
  ⟨h _ _ ((St.start w).alloc o).nil (hS.alloc o)⟩
theorem St.ldG {w0 w : World} {T : List Nat} {H : Heap} {b off : Nat} {l : List Value} {t : TypeId} {fz : Nat × Nat} {F : Obj → Heap} (hS : St w0 T H w) [Slot H b (.cells ⟨l⟩ t fz) F] {v : Value} (hv : l[off]? = some v)
    {K : Value → Prop} (hk : K v) : LdC (Grew w) ⟨b, off, none⟩ K :=
  ⟨⟨v, fun _ h => h.oldCell (by simp) (hS.cell hv), hk⟩⟩
theorem St.ldnG {w0 w : World} {T : List Nat} {H : Heap} {n b off : Nat} {l : List Value} {t : TypeId} {fz : Nat × Nat} {F : Obj → Heap} (hS : St w0 T H w) [Slot H b (.cells ⟨l⟩ t fz) F] (hn : Nat.ble (off + n) l.length = true)
    {K : List Value → Prop} (hk : forceL ((l.drop off).take n) K) : LdN (Grew w) n b off K := by
  have hle := Nat.le_of_ble_eq_true hn
  refine ⟨⟨_, by simp; omega, fun _ h j v hv => ?_, (forceL_iff _ _).1 hk⟩⟩
  refine h.oldCell (by simp) (hS.cell ?_)
  rw [List.getElem?_take] at hv
  split at hv
  · rw [List.getElem?_drop] at hv; exact hv
  · cases hv
theorem St.ldOldG {w0 w : World} {T : List Nat} {H : Heap} (hS : St w0 T H w) {a : Addr} (hb : a.block ∉ T) {v : Value} (h : w0.cell? a = some v) {K : Value → Prop} (hk : K v) : LdC (Grew w) a K :=
  ⟨⟨v, fun _ h' => h'.oldCell (by simp) (hS.oldCell hb h), hk⟩⟩
/-- i may be taken first: it is pure or reads, and nothing else that could come up now is in its way. -/
def takeOK (ops : Array Oper) (kd : Op → OpKind) (fin : List Nat) (listed : Array Bool) (i : Nat) : Bool := match ops[i]? with
  | none => false
  | some o => (match kd o.op with | .eff => false | _ => true) && (Region.ready .any ops listed).contains i && free' ops listed i && !fin.elem i && finWait ops listed fin i
/-- What is left of a region that draws its order. -/
structure DrawG (P : Program) (T : Tbl) (N : Nat) (all : List Oper) (fin : List Nat) (Q : Exit → Env → World → Prop) (n : Nat) (listed : Array Bool) (e : Env) (w : World) : Prop where
  out : ∀ a, Closed ⟨all⟩ listed → Rel N e a → wpAnyR P .any ⟨all⟩ (lift N Q) (grewS fin) n listed a w
def vcT (P : Program) (T : Tbl) (N : Nat) (all : List Oper) (fin : List Nat) (Q : Exit → Env → World → Prop) (n : Nat) : List Nat → Array Bool → Env → World → Prop
  | [], listed, e, w => DrawG P T N all fin Q n listed e w
  | i :: r, listed, e, w => atK all i fun o => grdG all o.guard e
    (fun e => match kind T o.op with
      | .pure => pureG P T e o.op fun v => putE N o.dst v e fun e' => vcT P T N all fin Q n r (listed.setIfInBounds i true) e' w
      | .read => readG P T e (Grew w) o fun v => putE N o.dst v e fun e' => vcT P T N all fin Q n r (listed.setIfInBounds i true) e' w
      | .eff => False)
    (fun e => putE N o.dst undef e fun e' => vcT P T N all fin Q n r (listed.setIfInBounds i true) e' w)
def takesOK (ops : Array Oper) (kd : Op → OpKind) (fin : List Nat) : List Nat → Array Bool → Bool
  | [], _ => true
  | i :: r, listed => takeOK ops kd fin listed i && takesOK ops kd fin r (listed.setIfInBounds i true)
section
variable {P : Program} {T : Tbl} (hT : TOk P T) {N : Nat} {all : List Oper} {fin : List Nat} {Q : Exit → Env → World → Prop}
include hT
theorem DrawG.takes (hsel : Region.noSelect ⟨all⟩ = true) (n : Nat) : ∀ (is : List Nat) {listed : Array Bool} {e : Env} {w : World} (_h : takesOK ⟨all⟩ (kind T) fin is listed = true) (_g : vcT P T N all fin Q n is listed e w), DrawG P T N all fin Q (n + is.length) listed e w
  | [], _, _, _, _, g => g
  | i :: r, listed, e, w, h, g => by
    refine ⟨fun a hcl hr => ?_⟩
    simp only [takesOK, Bool.and_eq_true] at h
    obtain ⟨h1, h2⟩ := h
    obtain ⟨o, ho, g⟩ := atK_iff g
    have ho' : (Array.mk all)[i]? = some o := by simpa using ho
    unfold takeOK at h1
    simp only [ho', Bool.and_eq_true] at h1
    obtain ⟨⟨⟨⟨hk, hrd⟩, hf⟩, hnf⟩, hw⟩ := h1
    have hready : i ∈ Region.ready .any ⟨all⟩ listed := by simpa using hrd
    have key : ∀ (v : Value) (e' : Env), YieldsIf P ⟨all⟩ (Grew w) o v a → Rel N e' (a.put o.dst v) → vcT P T N all fin Q n r (listed.setIfInBounds i true) e' w →
        wpAnyR P .any ⟨all⟩ (lift N Q) (grewS fin) (n + (i :: r).length) listed a w := by
      intro v e' hy hr' hv
      rw [List.length_cons, ← Nat.add_assoc]
      refine wpAnyR_first (C := Grew w) (n := all.length) ho' (Region.noSelect_spec hsel) (fun c a w h => h.elim) (fun w => .inr (Grew.refl w)) (n + r.length) listed a w hcl ?_ hready hy (Grew.refl w) ?_
      · intro j oj hj hne hun hd
        have hjlt : j < all.length := by have := (Array.getElem?_eq_some_iff.1 hj).1; simpa using this
        simp only [free', ho', List.all_eq_true, List.mem_range] at hf
        have h1 := hf j (by simpa using hjlt)
        have hd' : dep ⟨all⟩ (Array.mk all).size j i = false := hd
        simp only [hj, Bool.or_eq_true, beq_iff_eq, hne, false_or, hun, hd', Bool.false_eq_true] at h1
        refine ⟨h1, fun w1 w2 hw1 hw2 => ?_⟩
        rcases hw2 with hw2 | hw2
        · simp only [finWait, List.all_eq_true] at hw
          have h3 := hw j hw2
          simp only [Bool.or_eq_true, beq_iff_eq, hne, false_or, hun, hd', Bool.false_eq_true] at h3
        · exact hw1.trans hw2
      · exact (DrawG.takes hsel n r h2 hv).out _ (hcl.set hready) hr'
    rcases grdG_iff hr g with ⟨e1, h1, h2, h3⟩ | ⟨e1, h1, h2, h3⟩
    · cases hk' : kind T o.op <;> simp only [hk'] at h3 hk
      case pure =>
        obtain ⟨v, h4, h5⟩ := pureG_sound hT h1 h3
        obtain ⟨e', h6, h7⟩ := putE_iff h4 h1
        exact key v e' (.inl ⟨h2, fun w _ => h5 w⟩) h6 h7
      case read =>
        obtain ⟨v, h4, h5⟩ := readG_sound hT h1 h3
        obtain ⟨e', h6, h7⟩ := putE_iff h4 h1
        exact key v e' (.inl ⟨h2, fun w hw => h5 w hw⟩) h6 h7
    · obtain ⟨e', h6, h7⟩ := putE_iff h3 h1
      exact key undef e' (.inr ⟨h2, rfl⟩) h6 h7
/-- Whatever may come up now. -/
theorem DrawG.alt {n : Nat} {listed : Array Bool} {e : Env} {w : World} (j : Nat) (js : List Nat) (h : Region.ready .any ⟨all⟩ listed = j :: js)
    (g : allP (j :: js) fun i => atK all i fun o => grdG all o.guard e
      (fun e => match kind T o.op with
        | .pure => pureG P T e o.op fun v => putE N o.dst v e fun e' => DrawG P T N all fin Q n (listed.setIfInBounds i true) e' w
        | .read => readG P T e (fun w' => w = w') o fun v => putE N o.dst v e fun e' => DrawG P T N all fin Q n (listed.setIfInBounds i true) e' w
        | .eff => effG P T e o w fun v w' => (match fin.elem i with
          | true => putE N o.dst v e fun e' => DrawG P T N all fin Q n (listed.setIfInBounds i true) e' w'
          | false => Chk (Grew w w') (putE N o.dst v e fun e' => DrawG P T N all fin Q n (listed.setIfInBounds i true) e' w')))
      (fun e => putE N o.dst undef e fun e' => DrawG P T N all fin Q n (listed.setIfInBounds i true) e' w)) : DrawG P T N all fin Q (n + 1) listed e w := by
  refine ⟨fun a hcl hr => ⟨fun h0 => (by rw [h] at h0; cases h0), fun i hi => ?_⟩⟩
  have hcl' := hcl.set hi
  rw [h] at hi
  obtain ⟨o, ho, g⟩ := atK_iff (allP_mem g i hi)
  have ho' : (Array.mk all)[i]? = some o := by simpa using ho
  rcases grdG_iff hr g with ⟨e1, h1, h2, h3⟩ | ⟨e1, h1, h2, h3⟩
  · unfold wpOp
    simp only [ho', h2, if_true]
    refine .inl ?_
    cases hk : kind T o.op <;> simp only [hk] at h3
    case pure =>
      obtain ⟨v, h4, h5⟩ := pureG_sound hT h1 h3
      obtain ⟨e', h6, h7⟩ := putE_iff h4 h1
      exact Oper.wp_value (h5 w) ⟨.inr (Grew.refl w), h7.out _ hcl' h6⟩
    case read =>
      obtain ⟨v, h4, h5⟩ := readG_sound hT h1 h3
      obtain ⟨e', h6, h7⟩ := putE_iff h4 h1
      exact Oper.wp_value (h5 w rfl) ⟨.inr (Grew.refl w), h7.out _ hcl' h6⟩
    case eff =>
      refine effG_sound hT h1 h3 fun v w' hk' => ?_
      cases hf : fin.elem i <;> rw [hf] at hk'
      · obtain ⟨e', h6, h7⟩ := putE_iff hk'.q h1
        exact ⟨.inr hk'.p, h7.out _ hcl' h6⟩
      · obtain ⟨e', h6, h7⟩ := putE_iff hk' h1
        exact ⟨.inl (by simpa using hf), h7.out _ hcl' h6⟩
  · obtain ⟨e', h6, h7⟩ := putE_iff h3 h1
    unfold wpOp
    simp only [ho', h2, Bool.false_eq_true, if_false]
    exact ⟨.inr (Grew.refl w), h7.out _ hcl' h6⟩
omit hT in
theorem DrawG.done {n : Nat} {listed : Array Bool} {e : Env} {w : World} (h : Region.ready .any ⟨all⟩ listed = []) (hk : Q .normal e w) : DrawG P T N all fin Q n listed e w := by
  refine ⟨fun a _ hr => ?_⟩
  cases n with
  | zero => exact ⟨h, e, hr, hk⟩
  | succ n => exact ⟨fun _ => ⟨e, hr, hk⟩, fun i hi => by rw [h] at hi; cases hi⟩
end
theorem SemW.drawR {P : Program} {T : Tbl} (_hT : TOk P T) {N : Nat} {all : List Oper} {Q : Exit → Env → World → Prop} {id : Nat} {e : Env} {w : World} (hm : P.follows .mixedOrders = true) (fin : List Nat) (h : DrawG P T N all fin Q all.length (Array.replicate (Array.mk all).size false) e w.drew) : StopW P N (.region id ⟨all⟩ true) Q e w :=
  ⟨fun a hr => wp_region_any hm (wpAny_of_R _ _ _ _ (h.out a (by
    intro j oj _ hl
    simp only [Array.getD_eq_getD_getElem?, Array.getElem?_replicate] at hl
    split at hl <;> simp at hl) hr))⟩
end Go.Eng
