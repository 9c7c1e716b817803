import Derived.Test.YtkncpdehgcldbaaDoorMem
namespace Go.Eng
open Go

section
variable {P : Program} {ops : Array Oper} {Q : Exit → Act → World → Prop} {md : Region.Mode} {S : Nat → World → Prop}

/-- Whatever order is picked from here on; behind operation number i the world meets S i. -/
def wpAnyI (P : Program) (md : Region.Mode) (ops : Array Oper) (Q : Exit → Act → World → Prop) (S : Nat → World → Prop) : Nat → Array Bool → Act → World → Prop
  | 0, listed, a, w => Region.ready md ops listed = [] ∧ Q .normal a w
  | fuel + 1, listed, a, w =>
    (Region.ready md ops listed = [] → Q .normal a w) ∧
    ∀ i ∈ Region.ready md ops listed, wpOp P ops Q i (fun a' w' => S i w' ∧ wpAnyI P md ops Q S fuel (listed.setIfInBounds i true) a' w') a w

theorem wpAny_of_I : ∀ (fuel : Nat) (listed : Array Bool) (a : Act) (w : World), wpAnyI P md ops Q S fuel listed a w → wpAny P md ops Q fuel listed a w
  | 0, _, _, _, h => h
  | fuel + 1, _, _, _, h => ⟨h.1, fun i hi => wpOp_mono (fun a' w' h' => wpAny_of_I fuel _ a' w' h'.2) (h.2 i hi)⟩

/-- Operation j waits for i, perhaps through others. -/
def dep (ops : Array Oper) : Nat → Nat → Nat → Bool
  | 0, _, _ => false
  | n + 1, j, i => match ops[j]? with
    | some oj => oj.after.any fun e => Region.binds .any e && (e.on == i || dep ops n e.on i)
    | none => false
/-- What an operation that has come up waits for has come up. -/
def Closed (ops : Array Oper) (listed : Array Bool) : Prop :=
  ∀ j oj, ops[j]? = some oj → listed.getD j false = true → ∀ e ∈ oj.after, Region.binds .any e = true → listed.getD e.on false = true
theorem dep_listed {listed : Array Bool} (hc : Closed ops listed) {i : Nat} : ∀ (n j : Nat), dep ops n j i = true → (∀ oj, ops[j]? = some oj → ∀ e ∈ oj.after, Region.binds .any e = true → listed.getD e.on false = true) → listed.getD i false = true
  | 0, _, h, _ => by simp [dep] at h
  | n + 1, j, h, hj => by
    simp only [dep] at h
    cases hoj : ops[j]? with
    | none => simp [hoj] at h
    | some oj =>
      rw [hoj] at h
      obtain ⟨e, he, hb⟩ := Array.any_eq_true'.1 h
      simp only [Bool.and_eq_true, Bool.or_eq_true, beq_iff_eq] at hb
      have hl := hj oj hoj e he hb.1
      rcases hb.2 with h1 | h1
      · rw [← h1]; exact hl
      · exact dep_listed hc n e.on h1 fun o ho e' he' hb' => hc _ _ ho hl e' he' hb'
theorem getD_both' {listed : Array Bool} {i : Nat} (h : listed.getD i true = false) : listed.getD i false = false := by
  rcases Nat.lt_or_ge i listed.size with h' | h'
  · simp [h'] at h ⊢; exact h
  · simp [Array.getElem?_eq_none h'] at h
theorem ready_not_dep {listed : Array Bool} (hc : Closed ops listed) {i j n : Nat} (hi : listed.getD i true = false) (hj : j ∈ Region.ready .any ops listed) : dep ops n j i = false := by
  cases hd : dep ops n j i with
  | false => rfl
  | true =>
    obtain ⟨_, oj, hoj, hall⟩ := mem_ready.1 hj
    have := dep_listed hc n j hd fun o ho e he hb => by rw [hoj] at ho; cases ho; exact hall e he hb
    rw [getD_both' hi] at this; cases this
theorem Closed.set {listed : Array Bool} (hc : Closed ops listed) {j : Nat} (hj : j ∈ Region.ready .any ops listed) : Closed ops (listed.setIfInBounds j true) := by
  obtain ⟨_, oj, hoj, hall⟩ := mem_ready.1 hj
  intro k ok hk hl e he hb
  have h1 : listed.getD e.on false = true := by
    by_cases hjk : j = k
    · subst hjk; rw [hoj] at hk; cases hk; exact hall e he hb
    · rw [getD_set_ne false hjk] at hl; exact hc k ok hk hl e he hb
  exact getD_set_true h1

/-- An operation that may come up now may be taken first, if it yields its value in every world that meets C, the world at hand meets C, and each other operation that does not wait for it is apart from it and keeps C. -/
theorem wpAnyI_first {C : World → Prop} {n i : Nat} {oi : Oper} {v : Value} (hi : ops[i]? = some oi) (hsel : ∀ (j : Nat) (o : Oper) cs b, ops[j]? = some o → o.op ≠ .select cs b)
    (hQ : ∀ c a w, Q (.panic c) (a.put oi.dst v) w → Q (.panic c) a w) (hSi : ∀ w, C w → S i w) :
    ∀ (fuel : Nat) (listed : Array Bool) (a : Act) (w : World), Closed ops listed →
      (∀ j oj, ops[j]? = some oj → j ≠ i → listed.getD j true = false → dep ops n j i = false → oi.apart ops oj = true ∧ ∀ w', S j w' → C w') →
      i ∈ Region.ready .any ops listed → YieldsIf P ops C oi v a → C w →
      wpAnyI P .any ops Q S fuel (listed.setIfInBounds i true) (a.put oi.dst v) w → wpAnyI P .any ops Q S (fuel + 1) listed a w := by
  intro fuel
  induction fuel with
  | zero =>
    intro listed a w _ _ hr hy hS H
    refine ⟨fun h => (by rw [h] at hr; cases hr), fun j hj => ?_⟩
    by_cases hji : j = i
    · subst hji; exact hy.wpOp hi hS ⟨hSi _ hS, H⟩
    · have := ready_mono hj hji
      rw [H.1] at this
      cases this
  | succ fuel ih =>
    intro listed a w hcl hfree hr hy hS H
    refine ⟨fun h => (by rw [h] at hr; cases hr), fun j hj => ?_⟩
    by_cases hji : j = i
    · subst hji; exact hy.wpOp hi hS ⟨hSi _ hS, H⟩
    · have h1 := H.2 j (ready_mono hj hji)
      obtain ⟨hjun, oj, hoj, hall⟩ := mem_ready.1 hj
      have hnot := ready_not_dep (n := n) hcl (mem_ready.1 hr).1 hj
      obtain ⟨hap, hkeep⟩ := hfree j oj hoj hji hjun hnot
      have h2 := wpOp_putIf hoj hap (fun cs b => hsel i oi cs b hi) (fun cs b => hsel j oj cs b hoj) hQ hy h1
      have hfree' : ∀ k ok, ops[k]? = some ok → k ≠ i → (listed.setIfInBounds j true).getD k true = false →
          dep ops n k i = false → oi.apart ops ok = true ∧ ∀ w', S k w' → C w' := fun k ok hk hki hun hno => by
        refine hfree k ok hk hki ?_ hno
        by_cases hjk : j = k
        · subst hjk; exact hjun
        · rw [getD_set_ne true hjk] at hun; exact hun
      refine wpOp_mono (fun a' w' h3 => ⟨h3.2.1, ih (listed.setIfInBounds j true) a' w' (hcl.set hj) hfree' (ready_mono hr (Ne.symm hji)) h3.1 (hkeep _ h3.2.1) ?_⟩) h2
      rw [Array.setIfInBounds_comm _ _ hji]
      exact h3.2.2
end

/-- Every operation not yet listed (other than i) waits for i or is apart from it. -/
def free' (ops : Array Oper) (listed : Array Bool) (i : Nat) : Bool :=
  match ops[i]? with
  | none => false
  | some oi => (List.range ops.size).all fun j => j == i || listed.getD j true || dep ops ops.size j i || (match ops[j]? with | some oj => oi.apart ops oj | none => true)
/-- Every operation of fin that is not yet listed (other than i) waits for i. -/
def finWait (ops : Array Oper) (listed : Array Bool) (fin : List Nat) (i : Nat) : Bool := fin.all fun j => j == i || listed.getD j true || dep ops ops.size j i

/-- The plan: pure and reading operations are taken as soon as they may come up, the others come up alone; those of fin come last: nothing that reads comes behind them. -/
def planOK (ops : Array Oper) (kd : Op → OpKind) (fin : List Nat) : List Nat → Bool → Array Bool → Bool
  | [], _, listed => (Region.ready .any ops listed).isEmpty
  | i :: r, c, listed => match ops[i]? with
    | none => false
    | some o => (c || fin.elem i) && (match kd o.op with
      | .pure => (Region.ready .any ops listed).contains i && free' ops listed i && (fin.elem i || finWait ops listed fin i)
      | .read => (Region.ready .any ops listed).contains i && free' ops listed i && !fin.elem i && finWait ops listed fin i
      | .eff => (Region.ready .any ops listed) == [i]) &&
      planOK ops kd fin r (match kd o.op with | .eff => c && !fin.elem i | _ => c) (listed.setIfInBounds i true)

def atK : List Oper → Nat → (Oper → Prop) → Prop
  | [], _, _ => False
  | o :: _, 0, K => K o
  | _ :: t, n + 1, K => atK t n K
theorem atK_iff : ∀ {l : List Oper} {n : Nat} {K : Oper → Prop}, atK l n K → ∃ o, l[n]? = some o ∧ K o
  | [], _, _, h => h.elim
  | o :: _, 0, _, h => ⟨o, rfl, h⟩
  | _ :: t, n + 1, _, h => by simpa using atK_iff (l := t) h

def vcD (P : Program) (T : Tbl) (N : Nat) (all : List Oper) (C : World → Prop) (fin : List Nat) : List Nat → Env → World → (Env → World → Prop) → Prop
  | [], e, w, K => K e w
  | i :: r, e, w, K => atK all i fun o => grdG all o.guard e
    (fun e => match kind T o.op with
      | .pure => pureG P T e o.op fun v => putE N o.dst v e fun e' => vcD P T N all C fin r e' w K
      | .read => readG P T e C o fun v => putE N o.dst v e fun e' => vcD P T N all C fin r e' w K
      | .eff => effG P T e o w fun v w' => (match fin.elem i with
        | true => putE N o.dst v e fun e' => vcD P T N all C fin r e' w' K
        | false => Chk (C w') (putE N o.dst v e fun e' => vcD P T N all C fin r e' w' K)))
    (fun e => putE N o.dst undef e fun e' => vcD P T N all C fin r e' w K)

theorem vcD_sound {P : Program} {T : Tbl} (hT : TOk P T) {N : Nat} {all : List Oper} {C : World → Prop} {fin : List Nat} {Q : Exit → Act → World → Prop} {K : Env → World → Prop}
    (hsel : Region.noSelect ⟨all⟩ = true) (hQp : ∀ c a w, ¬ Q (.panic c) a w)
    (hK : ∀ e' a' w', K e' w' → Rel N e' a' → Q .normal a' w') :
    ∀ (r : List Nat) (c : Bool) (listed : Array Bool) (e : Env) (a : Act) (w : World), Closed ⟨all⟩ listed → (c = true → C w) → Rel N e a → planOK ⟨all⟩ (kind T) fin r c listed = true → vcD P T N all C fin r e w K →
      wpAnyI P .any ⟨all⟩ Q (fun j w' => j ∈ fin ∨ C w') r.length listed a w
  | [], c, listed, e, a, w, _, _, hr, hp, h => ⟨by simpa [planOK] using hp, hK _ _ _ h hr⟩
  | i :: r, c, listed, e, a, w, hcl, hC, hr, hp, h => by
    obtain ⟨o, ho, h⟩ := atK_iff h
    have ho' : (Array.mk all)[i]? = some o := by simpa using ho
    simp only [planOK, ho', Bool.and_eq_true] at hp
    obtain ⟨⟨hcf, hkind⟩, hrest⟩ := hp
    have hcf' : C w ∨ i ∈ fin := by
      rcases Bool.or_eq_true _ _ ▸ hcf with h | h
      · exact .inl (hC h)
      · exact .inr (by simpa using h)
    -- taken first
    have take : ∀ (v : Value) (e' : Env), kind T o.op ≠ .eff → YieldsIf P ⟨all⟩ (fun w => i ∈ fin ∨ C w) o v a → Rel N e' (a.put o.dst v) → vcD P T N all C fin r e' w K →
        wpAnyI P .any ⟨all⟩ Q (fun j w' => j ∈ fin ∨ C w') (r.length + 1) listed a w := by
      intro v e' hne hy hr' hv
      have hfw : (Region.ready .any ⟨all⟩ listed).contains i = true ∧ free' ⟨all⟩ listed i = true ∧ (i ∈ fin ∨ finWait ⟨all⟩ listed fin i = true) := by
        cases hk : kind T o.op <;> simp only [hk] at hkind hne
        case pure =>
          simp only [Bool.and_eq_true, Bool.or_eq_true] at hkind
          refine ⟨hkind.1.1, hkind.1.2, ?_⟩
          rcases hkind.2 with h | h
          · exact .inl (by simpa using h)
          · exact .inr h
        case read =>
          simp only [Bool.and_eq_true] at hkind
          exact ⟨hkind.1.1.1, hkind.1.1.2, .inr hkind.2⟩
        case eff => exact absurd rfl hne
      have hready : i ∈ Region.ready .any ⟨all⟩ listed := by simpa using hfw.1
      refine wpAnyI_first (C := fun w => i ∈ fin ∨ C w) (n := all.length) ho' (Region.noSelect_spec hsel) (fun c a w h => absurd h (hQp _ _ _)) (fun _ h => h) r.length listed a w hcl ?_ hready hy (Or.symm hcf') ?_
      · intro j oj hj hne hun hd
        have hjlt : j < all.length := by have := (Array.getElem?_eq_some_iff.1 hj).1; simpa using this
        have hf := hfw.2.1
        simp only [free', ho', List.all_eq_true, List.mem_range] at hf
        have h1 := hf j (by simpa using hjlt)
        have hd' : dep ⟨all⟩ (Array.mk all).size j i = false := hd
        simp only [hj, Bool.or_eq_true, beq_iff_eq, hne, false_or, hun, hd', Bool.false_eq_true] at h1
        refine ⟨h1, fun w' hw' => ?_⟩
        rcases hfw.2.2 with h2 | h2
        · exact .inl h2
        · rcases hw' with hw' | hw'
          · simp only [finWait, List.all_eq_true] at h2
            have h3 := h2 j hw'
            simp only [Bool.or_eq_true, beq_iff_eq, hne, false_or, hun, hd', Bool.false_eq_true] at h3
          · exact .inr hw'
      · refine vcD_sound hT hsel hQp hK r _ _ e' _ w (hcl.set hready) ?_ hr' hrest hv
        intro hc
        cases hk : kind T o.op <;> rw [hk] at hc
        · exact hC hc
        · exact hC hc
        · exact absurd hk hne
    -- it comes up alone
    have alone : kind T o.op = .eff → ∀ (Kn : Act → World → Prop), (∀ a' w', Kn a' w' → ∃ e', Rel N e' a' ∧ (i ∈ fin ∨ C w') ∧ vcD P T N all C fin r e' w' K) → wpOp P ⟨all⟩ Q i Kn a w →
        wpAnyI P .any ⟨all⟩ Q (fun j w' => j ∈ fin ∨ C w') (r.length + 1) listed a w := by
      intro hk Kn hKn hw
      rw [hk] at hkind hrest
      have hready : Region.ready .any ⟨all⟩ listed = [i] := by simpa using hkind
      have hmem : i ∈ Region.ready .any ⟨all⟩ listed := by rw [hready]; simp
      refine ⟨fun h0 => (by rw [h0] at hmem; cases hmem), fun j hj => ?_⟩
      rw [hready] at hj
      simp only [List.mem_singleton] at hj
      subst hj
      refine wpOp_mono (fun a' w' hk' => ?_) hw
      obtain ⟨e', h1, h2, h3⟩ := hKn a' w' hk'
      refine ⟨h2, vcD_sound hT hsel hQp hK r _ _ e' _ w' (hcl.set hmem) (fun hc => ?_) h1 hrest h3⟩
      rcases h2 with h2 | h2
      · simp only [Bool.and_eq_true, Bool.not_eq_true'] at hc
        have : fin.elem j = true := by simpa using h2
        rw [this] at hc; exact absurd hc.2 (by simp)
      · exact h2
    rcases grdG_iff hr h with ⟨e1, h1, h2, h3⟩ | ⟨e1, h1, h2, h3⟩
    · cases hk : kind T o.op <;> simp only [hk] at h3
      case pure =>
        obtain ⟨v, h4, h5⟩ := pureG_sound hT h1 h3
        obtain ⟨e', h6, h7⟩ := putE_iff h4 h1
        exact take v e' (by rw [hk]; nofun) (.inl ⟨h2, fun w _ => h5 w⟩) h6 h7
      case read =>
        obtain ⟨v, h4, h5⟩ := readG_sound hT h1 h3
        obtain ⟨e', h6, h7⟩ := putE_iff h4 h1
        have hnf : ¬ i ∈ fin := by
          rw [hk] at hkind
          simp only [Bool.and_eq_true, Bool.not_eq_true'] at hkind
          intro hm
          have : fin.elem i = true := by simpa using hm
          rw [this] at hkind; exact absurd hkind.1.2 (by simp)
        exact take v e' (by rw [hk]; nofun) (.inl ⟨h2, fun w hw => h5 w (hw.resolve_left hnf)⟩) h6 h7
      case eff =>
        refine alone hk (fun a' w' => ∃ e', Rel N e' a' ∧ (i ∈ fin ∨ C w') ∧ vcD P T N all C fin r e' w' K) (fun _ _ h => h) ?_
        unfold wpOp
        simp only [ho', h2, if_true]
        refine .inl (effG_sound hT h1 h3 fun v w' hk' => ?_)
        cases hf : fin.elem i <;> rw [hf] at hk'
        · obtain ⟨e', h6, h7⟩ := putE_iff hk'.q h1
          exact ⟨e', h6, .inr hk'.p, h7⟩
        · obtain ⟨e', h6, h7⟩ := putE_iff hk' h1
          exact ⟨e', h6, .inl (by simpa using hf), h7⟩
    · obtain ⟨e', h6, h7⟩ := putE_iff h3 h1
      by_cases hk : kind T o.op = .eff
      · refine alone hk (fun a' w' => ∃ e', Rel N e' a' ∧ (i ∈ fin ∨ C w') ∧ vcD P T N all C fin r e' w' K) (fun _ _ h => h) ?_
        unfold wpOp
        simp only [ho', h2, Bool.false_eq_true, if_false]
        exact ⟨e', h6, Or.symm hcf', h7⟩
      · exact take undef e' hk (.inr ⟨h2, rfl⟩) h6 h7

/-- A REGION THAT DRAWS ITS ORDER: a class C of worlds that all its operations but those of fin keep; ord: the order in which they are shown. -/
theorem SemW.draw {P : Program} {T : Tbl} (hT : TOk P T) {N : Nat} {id : Nat} {all : List Oper} {Q : Exit → Env → World → Prop} {e : Env} {w : World} (hm : P.follows .mixedOrders = true)
    (C : World → Prop) (fin ord : List Nat) (hok : (Region.noSelect ⟨all⟩ && Nat.beq ord.length all.length && planOK ⟨all⟩ (kind T) fin ord true (Array.replicate (Array.mk all).size false)) = true)
    (hC : C w.drew) (h : vcD P T N all C fin ord e w.drew fun e' w' => Q .normal e' w') : StopW P N (.region id ⟨all⟩ true) Q e w := by
  simp only [Bool.and_eq_true] at hok
  obtain ⟨⟨h1, h2⟩, h3⟩ := hok
  refine ⟨fun a hr => wp_region_any hm ?_⟩
  have hl := Nat.eq_of_beq_eq_true h2
  have hcl : Closed ⟨all⟩ (Array.replicate (Array.mk all).size false) := by
    intro j oj _ hl
    simp only [Array.getD_eq_getD_getElem?, Array.getElem?_replicate] at hl
    split at hl <;> simp at hl
  have := vcD_sound (Q := lift N Q) hT h1 (fun _ _ _ h => h) (fun e' a' w' hk hr' => ⟨e', hr', hk⟩) ord true _ e a w.drew hcl (fun _ => hC) hr h3 h
  rw [hl] at this
  exact wpAny_of_I _ _ _ _ this

/-- Something of each. -/
def allP : List Nat → (Nat → Prop) → Prop
  | [], _ => True
  | i :: r, F => F i ∧ allP r F
theorem allP_mem : ∀ {is : List Nat} {F : Nat → Prop}, allP is F → ∀ i ∈ is, F i
  | j :: r, F, h, i, hi => by
    rcases List.mem_cons.1 hi with rfl | hi
    · exact h.1
    · exact allP_mem h.2 i hi
/-- Every order of a small region, each by itself. -/
def vcE (P : Program) (T : Tbl) (N : Nat) (all : List Oper) : Nat → Array Bool → Env → World → (Env → World → Prop) → Prop
  | 0, listed, e, w, K => match Region.ready .any ⟨all⟩ listed with
    | [] => K e w
    | _ :: _ => False
  | n + 1, listed, e, w, K => match Region.ready .any ⟨all⟩ listed with
    | [] => K e w
    | j :: js => allP (j :: js) fun i => atK all i fun o => grdG all o.guard e
      (fun e => stepG P T N e o w fun e' w' => vcE P T N all n (listed.setIfInBounds i true) e' w' K)
      (fun e => putE N o.dst undef e fun e' => vcE P T N all n (listed.setIfInBounds i true) e' w K)
theorem vcE_sound {P : Program} {T : Tbl} (hT : TOk P T) {N : Nat} {all : List Oper} {Q : Exit → Act → World → Prop} {K : Env → World → Prop} (hK : ∀ e' a' w', K e' w' → Rel N e' a' → Q .normal a' w') :
    ∀ (n : Nat) (listed : Array Bool) (e : Env) (a : Act) (w : World), Rel N e a → vcE P T N all n listed e w K → wpAny P .any ⟨all⟩ Q n listed a w
  | 0, listed, e, a, w, hr, h => by
    simp only [vcE] at h
    cases hrd : Region.ready .any ⟨all⟩ listed with
    | nil => rw [hrd] at h; exact ⟨hrd, hK _ _ _ h hr⟩
    | cons j js => rw [hrd] at h; exact h.elim
  | n + 1, listed, e, a, w, hr, h => by
    simp only [vcE] at h
    cases hrd : Region.ready .any ⟨all⟩ listed with
    | nil =>
      rw [hrd] at h
      exact ⟨fun _ => hK _ _ _ h hr, fun i hi => (by rw [hrd] at hi; cases hi)⟩
    | cons j js =>
      rw [hrd] at h
      refine ⟨fun h0 => (by rw [hrd] at h0; cases h0), fun i hi => ?_⟩
      rw [hrd] at hi
      obtain ⟨o, ho, h⟩ := atK_iff (allP_mem h i hi)
      have ho' : (Array.mk all)[i]? = some o := by simpa using ho
      rcases grdG_iff hr h with ⟨e1, h1, h2, h3⟩ | ⟨e1, h1, h2, h3⟩
      · unfold wpOp
        simp only [ho', h2, if_true]
        exact .inl (stepG_sound hT h1 h3 fun e' a' w' hv hr' => vcE_sound hT hK n _ e' a' w' hr' hv)
      · obtain ⟨e', h6, h7⟩ := putE_iff h3 h1
        unfold wpOp
        simp only [ho', h2, Bool.false_eq_true, if_false]
        exact vcE_sound hT hK n _ e' _ w h6 h7
/-- A REGION THAT DRAWS ITS ORDER, order by order. -/
theorem SemW.drawE {P : Program} {T : Tbl} (hT : TOk P T) {N : Nat} {id : Nat} {all : List Oper} {Q : Exit → Env → World → Prop} {e : Env} {w : World} (hm : P.follows .mixedOrders = true)
    (h : vcE P T N all all.length (Array.replicate (Array.mk all).size false) e w.drew fun e' w' => Q .normal e' w') : StopW P N (.region id ⟨all⟩ true) Q e w :=
  ⟨fun a hr => wp_region_any hm (vcE_sound (Q := lift N Q) hT (fun e' _ _ hk hr' => ⟨e', hr', hk⟩) all.length _ e a w.drew hr h)⟩
end Go.Eng
