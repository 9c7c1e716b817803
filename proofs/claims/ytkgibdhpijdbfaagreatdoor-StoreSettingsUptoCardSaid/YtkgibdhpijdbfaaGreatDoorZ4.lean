/- Texts of this claim, one behind the other. -/
import Derived.Test.YtkgibdhpijdbfaaGreatDoorZ3
import Derived.RangeFuncRecord
import Derived.TacticsIn
import Derived.OrdersIn
import Derived.Test.YtkgibdhpijdbfaaGreatDoorZ0
import Derived.Test.YtkgibdhpijdbfaaGreatDoorZ2
import Derived.Test.YtkgibdhpijdbfaaGreatDoorZ1
import Derived.Shelf.SlIter.Nil
import Derived.Shelf.SortM.Plain
import Derived.Shelf.SortM.SortNone
import Derived.Ground.GgzProg
import Derived.Ground.SlgmProg
import Derived.Test.YtkgibdhpijdbfaaGreatDoorProg
import Derived.Maps.Own
import Derived.Maps.RangeRun
set_option linter.unusedVariables false
set_option linter.unusedSimpArgs false
namespace Go.Eng
open Go
structure Md where
 r : Option Nat
 ds : List Deferred
abbrev Md.F (m : Md) : Fence := { Fence.wide with round := m.r }
variable {P : Program} {T : Tbl}
def noDef (o : Oper) : Bool := match o.op with | .defer _ => false | _ => true
theorem noDef_ne {o : Oper} (h : noDef o = true) : ∀ c, o.op ≠ .defer c := by intro c hc; simp [noDef, hc] at h
theorem rowsIn_md {m : Md} {row : String} {args : Array Value} {w : World} {R : Value → World → Prop} (h : Rows P row args w R) : RowsIn m.F 0 P row args w R :=
 fun c cs _ => let ⟨v, w', r, s⟩ := h c cs; ⟨v, w', r, stepsIn_wide.2 s⟩
theorem callsIn_md {m : Md} {f : FuncId} {args : Array Value} {w : World} {R : Ending → World → Prop} (h : Calls P f args w R) : CallsIn m.F 0 P f args w R :=
 (callsIn_wide (n := 0)).2 h
theorem wpIn_md {m : Md} {o : Oper} {a : Act} {w : World} {next : Act → World → Prop} {Q : Exit → Act → World → Prop} (hd : noDef o = true) (h : o.wp P a w next Q) : o.wpIn m.F 0 P a w next Q := by
 refine ⟨fun _ _ => trivial, ?_⟩
 rw [Oper.semAt_eq _ _ _ (noDef_ne hd)]
 unfold Oper.wp Oper.upon at h
 unfold Oper.uponIn
 generalize (execOp a.eval o).run P w = r at h ⊢
 cases r with
 |ok n w' => cases n with
  |value v => exact h
  |skip => exact h
  |defer d => exact h
  |enter f args => exact ⟨nofun, callsIn_md h⟩
  |row row args => exact ⟨nofun, rowsIn_md h⟩
  |_ => exact h.elim
 |halt s w' => cases s <;> exact h
def liftM (ds : List Deferred) (N : Nat) (Q : Exit → Env → World → Prop) : Exit → Act → World → Prop
 |.panic _, _, _ => False
 |.outgrown, _, _ => False
 |x, a, w => ∃ e, Rel ds N e a ∧ Q x e w
def SemM (P : Program) (N : Nat) (m : Md) (c : Code) (Q : Exit → Env → World → Prop) (e : Env) (w : World) : Prop := ∀ a, Rel m.ds N e a → c.wpIn m.F 0 P (liftM m.ds N Q) a w
theorem lift_M (N : Nat) (Q : Exit → Env → World → Prop) : lift N Q = liftM [] N Q := by
 funext x a w; cases x <;> rfl
theorem SemM.toW {N : Nat} {c : Code} {Q : Exit → Env → World → Prop} {e : Env} {w : World} (h : SemM P N ⟨none, []⟩ c Q e w) : SemW P N c Q e w :=
 fun a hr => by rw [lift_M]; exact (wpIn_wide (n := 0)).1 (h a hr)
theorem SemM.mono {N : Nat} {m : Md} {c : Code} {Q Q' : Exit → Env → World → Prop} {e : Env} {w : World} (h : SemM P N m c Q e w) (hq : ∀ x e w, Q x e w → Q' x e w) : SemM P N m c Q' e w :=
 fun a hr => wpIn_mono (h a hr) (fun x a w hl => by
  cases x <;> first | exact hl | (obtain ⟨e, h1, h2⟩ := hl; exact ⟨e, h1, hq _ _ _ h2⟩))
theorem SemM.seq {N : Nat} {m : Md} {x y : Code} {Q : Exit → Env → World → Prop} {e : Env} {w : World} (h : SemM P N m x (thenQ (SemM P N m y Q) Q) e w) : SemM P N m (.seq x y) Q e w := by
 intro a hr
 refine wpIn_seq (wpIn_mono (h a hr) (fun x a w hl => ?_))
 cases x
 case normal => obtain ⟨e, h1, h2⟩ := hl; exact h2 a h1
 all_goals exact hl
theorem SemM.block {N : Nat} {m : Md} {id : Nat} {c : Code} {Q : Exit → Env → World → Prop} {e : Env} {w : World} (h : SemM P N m c (blkQ id Q) e w) : SemM P N m (.block id c) Q e w := by
 intro a hr
 refine wpIn_block (wpIn_mono (h a hr) (fun x a w hl => ?_))
 cases x
 case exit id' =>
  obtain ⟨e, h1, h2⟩ := hl
  simp only [blkQ] at h2
  simp only [Exit.inBlock]
  cases hb : Nat.beq id' id with
  |true => rw [hb] at h2; rw [if_pos (Nat.eq_of_beq_eq_true hb)]; exact ⟨e, h1, h2⟩
  |false =>
   rw [hb] at h2
   rw [if_neg (by intro he; subst he; simp at hb)]
   exact ⟨e, h1, h2⟩
 all_goals exact hl
theorem SemM.cond {N : Nat} {m : Md} {c : Operand} {x y : Code} {Q : Exit → Env → World → Prop} {e : Env} {w : World}
  (h : evK e c fun v => match v with | .bool t => BrG t (SemM P N m x Q e w) (SemM P N m y Q e w) | _ => False) : SemM P N m (.cond c x y) Q e w := by
 intro a hr
 have h := evK_iff hr h
 cases hc : a.eval c <;> simp only [hc] at h
 case bool t => exact wpIn_cond_split hc (fun ht => h.t' ht a hr) (fun hf => h.f' hf a hr)
structure YldG (P : Program) (l : Nat) (vs : List Value) (w : World) (K : Value → World → Prop) : Prop where
 out : ∃ f tmps assign body, (Instr.yield l ⟨vs⟩).run P w = .ok (.round l f tmps assign body) w ∧ RoundIn Fence.wide 0 P l f tmps assign body w fun e w' => ∃ v, e = .returned v ∧ K v w'
def stepM (P : Program) (T : Tbl) (N : Nat) (e : Env) (o : Oper) (w : World) (K : Env → World → Prop) : Prop :=
 match o.op with
 |.call ⟨.value f, args, _⟩ => evK e f fun v => (match v with
  |.func (.yield l) ⟨[]⟩ ⟨[]⟩ => evsK e args.toList fun vs => YldG P l vs w fun v w' => putE N o.dst v e fun e' => K e' w'
  |_ => stepG P T N e o w K)
 |_ => stepG P T N e o w K
theorem stepM_sound (hT : TOk P T) {m : Md} {N : Nat} {e : Env} {a : Act} (hr : Rel m.ds N e a) {o : Oper} (hd : noDef o = true) {w : World} {K : Env → World → Prop} (h : stepM P T N e o w K)
  {next : Act → World → Prop} {Q : Exit → Act → World → Prop} (hn : ∀ e' a' w', K e' w' → Rel m.ds N e' a' → next a' w') : o.wpIn m.F 0 P a w next Q := by
 have base : stepG P T N e o w K → o.wpIn m.F 0 P a w next Q := fun h => wpIn_md hd (stepG_sound hT hr h hn)
 unfold stepM at h
 obtain ⟨dst, op, ty, pos, after, guard⟩ := o
 split at h
 case h_1 f args at' heq =>
  simp only at heq
  subst heq
  have h := evK_iff hr h
  split at h
  ·rename_i l hf
   have h := evsK_iff hr h
   have e2 : (⟨List.map a.eval args.toList⟩ : Array Value) = args.map a.eval := by rw [← Array.toList_map]
   obtain ⟨f', tmps, assign, body, h1, h2⟩ := h.out
   refine ⟨fun _ _ => trivial, ?_⟩
   rw [Oper.semAt_eq _ _ _ (noDef_ne hd)]
   have hx : (execOp a.eval ⟨dst, .call ⟨.value f, args, at'⟩, ty, pos, after, guard⟩).run P w = .ok (.round l f' tmps assign body) w := by
    rw [e2] at h1
    simp only [execOp, resolve, hf, Deferred.ofValue, Sem.run_bind, Sem.run_pure, Result.andThen_ok, invoke]
    simpa using h1
   rw [hx]
   refine ⟨nofun, ?_⟩
   refine RoundIn.mono (F := m.F) h2 ?_
   rintro e' w' ⟨v, rfl, hv⟩
   obtain ⟨e', h3, h4⟩ := putE_iff hv hr
   exact hn _ _ _ h4 h3
  ·exact base h
 ·exact base h
def vcOpsM (P : Program) (T : Tbl) (N : Nat) (all : List Oper) : List Oper → Env → World → (Env → World → Prop) → Prop
 |[], e, w, K => K e w
 |o :: r, e, w, K => (match noDef o with
  |true => grdG all o.guard e (fun e => stepM P T N e o w fun e' w' => vcOpsM P T N all r e' w' K) (fun e => putE N o.dst undef e fun e' => vcOpsM P T N all r e' w K)
  |false => False)
theorem vcOpsM_sound (hT : TOk P T) {m : Md} {N : Nat} {all : List Oper} {Q : Exit → Act → World → Prop} {K : Env → World → Prop}
  (hK : ∀ e' a' w', K e' w' → Rel m.ds N e' a' → Q .normal a' w') : ∀ (r : List Oper) (e : Env) (a : Act) (w : World), Rel m.ds N e a → vcOpsM P T N all r e w K → wpListIn m.F 0 P all.toArray Q r a w
 |[], e, a, w, hr, h => hK _ _ _ h hr
 |o :: r, e, a, w, hr, h => by
  simp only [vcOpsM] at h
  cases hd : noDef o with
  |false => rw [hd] at h; exact h.elim
  |true =>
   rw [hd] at h
   unfold wpListIn
   rcases grdG_iff hr h with ⟨e', h1, h2, h3⟩ | ⟨e', h1, h2, h3⟩
   ·rw [if_pos h2]
    exact stepM_sound hT h1 hd h3 fun e' a' w' hv hr' => vcOpsM_sound hT hK r _ _ _ hr' hv
   ·rw [if_neg (by rw [h2]; simp)]
    obtain ⟨e'', h4, h5⟩ := putE_iff h3 h1
    exact ⟨fun _ _ => trivial, vcOpsM_sound hT hK r _ _ _ h4 h5⟩
structure StopM (P : Program) (N : Nat) (m : Md) (c : Code) (Q : Exit → Env → World → Prop) (e : Env) (w : World) : Prop where
 out : SemM P N m c Q e w
def vcM (P : Program) (T : Tbl) (N : Nat) (m : Md) : Code → (Exit → Env → World → Prop) → Env → World → Prop
 |.skip, Q, e, w => Q .normal e w
 |.ret, Q, e, w => Q .ret e w
 |.exit id, Q, e, w => Q (.exit id) e w
 |.region _ ops false, Q, e, w => vcOpsM P T N ops.toList ops.toList e w fun e' w' => Q .normal e' w'
 |.seq a b, Q, e, w => vcM P T N m a (thenQ (SemM P N m b Q) Q) e w
 |.cond c a b, Q, e, w => evK e c fun v => match v with | .bool t => BrG t (vcM P T N m a Q e w) (vcM P T N m b Q e w) | _ => False
 |.block id c, Q, e, w => vcM P T N m c (blkQ id Q) e w
 |c, Q, e, w => StopM P N m c Q e w
theorem vcM_sound (hT : TOk P T) {N : Nat} {m : Md} : ∀ (c : Code) (Q : Exit → Env → World → Prop) (e : Env) (w : World), vcM P T N m c Q e w → SemM P N m c Q e w
 |.skip, Q, e, w, h => fun a hr => wpIn_skip ⟨e, hr, h⟩
 |.ret, Q, e, w, h => fun a hr => wpIn_ret ⟨e, hr, h⟩
 |.exit id, Q, e, w, h => fun a hr => wpIn_exit ⟨e, hr, h⟩
 |.region id ops false, Q, e, w, h => fun a hr => by
  obtain ⟨ops⟩ := ops
  exact wpIn_region_lit (vcOpsM_sound (Q := liftM m.ds N Q) hT (fun e' a' w' hk hr' => ⟨e', hr', hk⟩) _ _ _ _ hr h)
 |.seq a b, Q, e, w, h => SemM.seq (vcM_sound hT a _ e w h)
 |.cond c a b, Q, e, w, h => SemM.cond (by
   simp only [vcM] at h
   cases c with
   |tmp n =>
    obtain ⟨v, h1, h2⟩ := (lk_iff _ _ _).1 h
    refine (lk_iff _ _ _).2 ⟨v, h1, ?_⟩
    cases v <;> first | exact h2 | exact ⟨fun ht => vcM_sound hT a _ e w (h2.t' ht), fun hf => vcM_sound hT b _ e w (h2.f' hf)⟩
   |const v => cases v <;> first | exact h | exact ⟨fun ht => vcM_sound hT a _ e w (h.t' ht), fun hf => vcM_sound hT b _ e w (h.f' hf)⟩
   |global g => exact h
   |func f => exact h)
 |.block id c, Q, e, w, h => SemM.block (vcM_sound hT c _ e w h)
 |.region id ops true, Q, e, w, h => h.out
 |.loop c, Q, e, w, h => h.out
 |.rangeFunc .., Q, e, w, h => h.out
 |.scope c, Q, e, w, h => h.out
 |.label l, Q, e, w, h => h.out
 |.goto l, Q, e, w, h => h.out
 |.refuse s, Q, e, w, h => h.out
theorem SemM.run (hT : TOk P T) {N : Nat} {m : Md} {c : Code} {Q : Exit → Env → World → Prop} {e : Env} {w : World} (h : vcM P T N m c Q e w) : SemM P N m c Q e w := vcM_sound hT c Q e w h
theorem SemM.loop {N : Nat} {m : Md} {c : Code} {Q : Exit → Env → World → Prop} {e : Env} {w : World} {ι : Type} (I : ι → Env) (J : ι → World → Prop) (μ : ι → Nat) (i0 : ι)
  (hs : subG (I i0) e) (hJ : J i0 w)
  (round : ∀ i w, J i w → SemM P N m c (thenQ (fun e' w' => ∃ i', subG (I i') e' ∧ J i' w' ∧ μ i' < μ i) Q) (I i) w) : StopM P N m (.loop c) Q e w := by
 refine ⟨fun a hr b k cs hro hb hroom => ?_⟩
 have key : ∀ n i a w, μ i = n → Rel m.ds N (I i) a → J i w →
   ∃ x a' w', liftM m.ds N Q x a' w' ∧ ArrivesIn (Machine.fenced P m.F) P (lone (b.atR a (.code c :: .inLoop c :: k)) cs w) b k cs x a' w' := by
  intro n
  induction n using Nat.strongRecOn with
  |_ n ih =>
   intro i a w hn hr hJ
   obtain ⟨x, a₁, w₁, hq, harr⟩ := round i w hJ a hr b (.inLoop c :: k) cs hro hb hroom
   cases x with
   |normal =>
    obtain ⟨e', hr', i', hs', hJ', hlt⟩ := hq
    obtain ⟨e₂, a₂, w₂, hq₂, harr₂⟩ := ih (μ i') (hn ▸ hlt) i' a₁ w₁ rfl (hr'.sub (subG_iff hs')) hJ'
    exact ⟨e₂, a₂, w₂, hq₂, .of_steps (StepsIn.trans harr (.one (fenced_calm hb hroom rfl) stepR_inLoop)) harr₂⟩
   |exit id => exact ⟨.exit id, a₁, w₁, hq, .pass (x := .inLoop c) rfl (fun _ _ => .inl (by simp)) harr⟩
   |goto l => exact ⟨.goto l, a₁, w₁, hq, .pass (x := .inLoop c) rfl (fun _ _ => .inl (by simp)) harr⟩
   |ret => exact ⟨.ret, a₁, w₁, hq, .pass (x := .inLoop c) rfl (fun _ _ => .inl (by simp)) harr⟩
   |panic ch => exact hq.elim
   |outgrown => exact hq.elim
 obtain ⟨x, a', w', hq, harr⟩ := key _ i0 a w rfl (hr.sub (subG_iff hs)) hJ
 exact ⟨x, a', w', hq, .of_steps (.one (fenced_calm hb hroom rfl) stepR_loop) harr⟩
theorem noOut (ds : List Deferred) (N : Nat) (Q : Exit → Env → World → Prop) : ¬ LetsOut (liftM ds N Q) := by
 rintro ⟨a, w, h⟩; exact h
theorem wpOpIn_md {m : Md} {ops : Array Oper} {Q : Exit → Act → World → Prop} (hQ : ¬ LetsOut Q) (hnd : ∀ (i : Nat) (o : Oper), ops[i]? = some o → noDef o = true) {i : Nat} {K K' : Act → World → Prop} {a : Act} {w : World}
  (hK : ∀ a w, K a w → K' a w) (h : wpOp P ops Q i K a w) : wpOpIn m.F 0 P ops Q i K' a w := by
 unfold wpOp at h
 unfold wpOpIn
 cases ho : ops[i]? with
 |none => rw [ho] at h; exact hK _ _ h
 |some o =>
  rw [ho] at h
  simp only at h ⊢
  split
  ·rename_i hw
   rw [if_pos hw] at h
   rcases h with h | ⟨_, h⟩
   ·exact Oper.wpIn_mono hK (wpIn_md (hnd i o ho) h)
   ·exact absurd h hQ
  ·rename_i hw
   rw [if_neg hw] at h
   exact ⟨fun _ _ => trivial, hK _ _ h⟩
theorem wpAnyIn_md {m : Md} {ops : Array Oper} {Q : Exit → Act → World → Prop} (hQ : ¬ LetsOut Q) (hnd : ∀ (i : Nat) (o : Oper), ops[i]? = some o → noDef o = true) : ∀ (fuel : Nat) (listed : Array Bool) (a : Act) (w : World),
  wpAny P .any ops Q fuel listed a w → wpAnyIn m.F 0 P .any ops Q fuel listed a w
 |0, _, _, _, h => h
 |fuel + 1, _, _, _, h => ⟨h.1, fun i hi => wpOpIn_md hQ hnd (fun a w => wpAnyIn_md hQ hnd fuel _ a w) (h.2 i hi)⟩
theorem all_noDef {l : List Oper} (h : l.all noDef = true) : ∀ (i : Nat) (o : Oper), (Array.mk l)[i]? = some o → noDef o = true := fun i o ho =>
 kBd.1 h o (List.mem_of_getElem? (by simpa using ho))
theorem SemM.draw (hT : TOk P T) {N : Nat} {m : Md} {id : Nat} {all : List Oper} {Q : Exit → Env → World → Prop} {e : Env} {w : World} (hm : P.follows .mixedOrders = true)
  (C : World → Prop) (fin ord : List Nat) (hok : (all.all noDef && (Region.noSelect ⟨all⟩ && Nat.beq ord.length all.length && planOK ⟨all⟩ (kind T) fin ord true (Array.replicate (Array.mk all).size false))) = true)
  (hC : C w.drew) (h : vcD P T N all C fin ord e w.drew fun e' w' => Q .normal e' w') : StopM P N m (.region id ⟨all⟩ true) Q e w := by
 simp only [Bool.and_eq_true] at hok
 obtain ⟨h0, ⟨h1, h2⟩, h3⟩ := hok
 refine ⟨fun a hr => wpIn_region_any hm ?_⟩
 have hl := Nat.eq_of_beq_eq_true h2
 have hcl : Closed ⟨all⟩ (Array.replicate (Array.mk all).size false) := by
  intro j oj _ hl
  simp only [Array.getD_eq_getD_getElem?, Array.getElem?_replicate] at hl
  split at hl <;> simp at hl
 have := vcD_sound (Q := liftM m.ds N Q) hT h1 (fun _ _ _ h => h) (fun e' a' w' hk hr' => ⟨e', hr', hk⟩) ord true _ e a w.drew hcl (fun _ => hC) hr h3 h
 rw [hl] at this
 exact wpAnyIn_md (noOut _ _ _) (all_noDef h0) _ _ _ _ (wpAny_of_I _ _ _ _ this)
/-! ## A function that holds a range over a function -/
abbrev coll (D : Nat) : Deferred := { target := .collected D, args := #[] }
def liftX (N : Nat) (Q : Exit → Env → World → Prop) : Exit → Act → World → Prop
 |.panic _, _, _ => False
 |.outgrown, _, _ => False
 |x, a, w => (∃ e, Rel [] N e a ∧ Q x e w) ∨ ∃ e D, Rel [coll D] N e a ∧ w.heap[D]? = some (.deferred (some [])) ∧ Q x e (w.putObj D (.deferred none))
def SemX (P : Program) (N : Nat) (c : Code) (Q : Exit → Env → World → Prop) (e : Env) (w : World) : Prop := ∀ a, Rel [] N e a → c.wp P (liftX N Q) a w
theorem SemX.seq {N : Nat} {x y : Code} {Q : Exit → Env → World → Prop} {e : Env} {w : World} (h : SemW P N x (thenQ (SemX P N y Q) Q) e w) : SemX P N (.seq x y) Q e w := by
 intro a hr
 refine wp_seq (Code.wp_mono (fun x a w hl => ?_) (h a hr))
 cases x
 case normal => obtain ⟨e, h1, h2⟩ := hl; exact h2 a h1
 case panic => exact hl.elim
 case outgrown => exact hl.elim
 all_goals exact .inl hl
def rndQ (l : Nat) (lo : LoopState → Option Code → Obj) (K : Value → World → Prop) : Exit → Env → World → Prop
 |.normal, _, w => w.heap[l]? = some (lo .busy none) ∧ K (.bool true) (w.putObj l (lo .ready none))
 |.ret, _, w => w.heap[l]? = some (lo .busy none) ∧ K (.bool false) (w.putObj l (lo .done (some .ret)))
 |_, _, _ => False
def outQ (D : Nat) (Q : Exit → Env → World → Prop) (x : Exit) (e : Env) (w : World) : Prop := w.heap[D]? = some (.deferred (some [])) ∧ Q x e (w.putObj D (.deferred none))
theorem outQ_lift {N D : Nat} {Q : Exit → Env → World → Prop} {x : Exit} {a : Act} {w : World} (h : liftM [coll D] N (outQ D Q) x a w) : liftX N Q x a w := by
 cases x <;> first | exact h | (obtain ⟨e, h1, h2, h3⟩ := h; exact .inr ⟨e, D, h1, h2, h3⟩)
theorem rangeCore {N : Nat} {g : Operand} {p : Tmp} {assign body : Code} {A B : World → Prop} {X : Exit → Act → World → Prop} {e : Env} {w : World} {gf : FuncId} {cap : List Value}
  (hcall : ∀ (args : Array Value) (w : World), (callFunc gf args).run P w = .ok (.enter gf args) w) (hg : evK e g fun v => v = .func (.func gf) #[] ⟨cap⟩) (hp : Nat.ble (p + 1) N = true)
  (h : ∀ (lo : LoopState → Option Code → Obj),
   (∀ (v : Value) (w1 : World) (K : Value → World → Prop), w1.heap[w.heap.size + 1]? = some (lo .ready none) →
    SemM P N ⟨some (w.heap.size + 1), []⟩ assign (thenQ (fun e1 w2 => w2.heap[w.heap.size + 1]? = some (lo .ready none) ∧ SemM P N ⟨some (w.heap.size + 1), []⟩ body (rndQ (w.heap.size + 1) lo K) e1 (w2.putObj (w.heap.size + 1) (lo .busy none))) (fun _ _ _ => False)) ((p, v) :: e) w1 →
    YldG P (w.heap.size + 1) [v] w1 K) →
   Cl P gf (.func (.yield (w.heap.size + 1)) #[] #[] :: cap) ((w.alloc (.deferred (some []))).alloc (lo .ready none)) fun _ w3 =>
    ∃ st pe, w3.heap[w.heap.size + 1]? = some (lo st pe) ∧ st ≠ .busy ∧ (match pe with
     |none => A (w3.putObj (w.heap.size + 1) (lo .exhausted none))
     |some .ret => B (w3.putObj (w.heap.size + 1) (lo .exhausted (some .ret)))
     |some _ => False))
  (hA : ∀ a' w', Rel [coll w.heap.size] N e a' → A w' → X .normal a' w') (hB : ∀ a' w', Rel [coll w.heap.size] N e a' → B w' → X .ret a' w') {a : Act} (hr : Rel [] N e a) :
  (Code.rangeFunc g #[p] assign body).wpIn Fence.wide 0 P X a w := by
 refine wpIn_rangeFunc (fun fn _ => ?_)
 have hg := evK_iff hr hg
 obtain ⟨rec, hrec⟩ : ∃ rec : LoopState → Option Code → Loop, rec = fun st pe => { state := st, pending := pe, fn, tmps := a.tmps, params := #[p], assign, body, defers := w.heap.size } := ⟨_, rfl⟩
 have hcl := h (fun st pe => .loop (rec st pe)) (by
  intro v w1 K hl hs
  have hy := run_yield (P := P) (args := #[v]) hl (by rw [hrec]; rfl)
  rw [hrec] at hy
  refine ⟨fn, _, assign, body, hy, roundIn_of_wpIn trivial ?_⟩
  have hr' : Rel [] N ((p, v) :: e) { tmps := ((#[p] : Array Tmp).zip #[v]).foldl (fun tmps (t, a) => tmps.setIfInBounds t a) a.tmps, defers := [] } := by
   have := Rel.put (a := { a with defers := [] }) ⟨hr.size, rfl, hr.get⟩ (kDm hp) v
   simpa [Act.put] using this
  refine wpIn_mono (hs _ hr') ?_
  intro x a1 w2 hl2
  cases x
  case normal =>
   obtain ⟨e1, hr1, hl3, hb⟩ := hl2
   refine ⟨_, run_beginRound hl3 (by rw [hrec]), ?_⟩
   have hbusy : ({ rec .ready none with state := .busy } : Loop) = rec .busy none := by rw [hrec]
   rw [hbusy]
   refine wpIn_mono (hb a1 hr1) ?_
   intro x2 a2 w4 hl4
   cases x2
   case normal =>
    obtain ⟨_, _, h5, h6⟩ := hl4
    refine ⟨_, _, run_endRound none h5, _, rfl, ?_⟩
    have : ({ rec .busy none with state := if (none : Option Code).isNone then .ready else .done, pending := none } : Loop) = rec .ready none := by rw [hrec]; rfl
    rw [this]; exact h6
   case ret =>
    obtain ⟨_, _, h5, h6⟩ := hl4
    refine ⟨_, _, run_endRound (some .ret) h5, _, rfl, ?_⟩
    have : ({ rec .busy none with state := if (some Code.ret).isNone then .ready else .done, pending := some .ret } : Loop) = rec .done (some .ret) := by rw [hrec]; rfl
    rw [this]; exact h6
   case panic => exact hl4.elim
   case outgrown => exact hl4.elim
   case exit => obtain ⟨_, _, h⟩ := hl4; exact h.elim
   case goto => obtain ⟨_, _, h⟩ := hl4; exact h.elim
  all_goals first | exact hl2.elim | (obtain ⟨_, _, h⟩ := hl2; exact h.elim))
 obtain ⟨W1, hW1⟩ : ∃ W1, (w.alloc (.deferred (some []))).alloc (.loop (rec .ready none)) = W1 := ⟨_, rfl⟩
 rw [hW1] at hcl
 rcases hcl with ⟨hc1, hc2⟩ | ⟨v, w', hc1, hc2⟩
 ·refine ⟨w.heap.size + 1, [coll w.heap.size], W1, { target := .fn (.func gf) ⟨cap⟩, args := #[.func (.yield (w.heap.size + 1)) #[] #[]] }, W1, gf, ⟨.func (.yield (w.heap.size + 1)) #[] #[] :: cap⟩, W1, ?_, ?_, fun _ _ => trivial, ?_, nofun, ?_⟩
  ·rw [← hW1, hrec]; exact run_enterLoop_outer _ _ _ _ _
  ·simp only [resolve, hg]
   simp [go_sem]
  ·have e2 : (#[Value.func (.yield (w.heap.size + 1)) #[] #[]] : Array Value) ++ (⟨cap⟩ : Array Value) = ⟨.func (.yield (w.heap.size + 1)) #[] #[] :: cap⟩ := by apply Array.ext'; simp
   simp only [invoke, e2]
   exact hc1
  ·refine (callsIn_wide (n := 0)).2 (Calls.mono hc2 ?_)
   rintro e' w3 ⟨v, rfl, st, pe, hl, hst, hm⟩
   subst hrec
   refine ⟨_, _, run_endLoop hl hst, ?_⟩
   have hr2 : Rel [coll w.heap.size] N e { a with defers := [coll w.heap.size] ++ a.defers } := ⟨hr.size, by simp [hr.dz], hr.get⟩
   cases pe with
   |none =>
    exact hA _ _ hr2 hm
   |some c =>
    cases c
    case ret => exact wpIn_ret (hB _ _ hr2 hm)
    all_goals exact hm.elim
 ·rw [hcall] at hc1; cases hc1
theorem SemX.range {N : Nat} {g : Operand} {p : Tmp} {assign body y : Code} {Q : Exit → Env → World → Prop} {e : Env} {w : World} {gf : FuncId} {cap : List Value}
  (hcall : ∀ (args : Array Value) (w : World), (callFunc gf args).run P w = .ok (.enter gf args) w) (hg : evK e g fun v => v = .func (.func gf) #[] ⟨cap⟩) (hp : Nat.ble (p + 1) N = true)
  (h : ∀ (lo : LoopState → Option Code → Obj),
   (∀ (v : Value) (w1 : World) (K : Value → World → Prop), w1.heap[w.heap.size + 1]? = some (lo .ready none) →
    SemM P N ⟨some (w.heap.size + 1), []⟩ assign (thenQ (fun e1 w2 => w2.heap[w.heap.size + 1]? = some (lo .ready none) ∧ SemM P N ⟨some (w.heap.size + 1), []⟩ body (rndQ (w.heap.size + 1) lo K) e1 (w2.putObj (w.heap.size + 1) (lo .busy none))) (fun _ _ _ => False)) ((p, v) :: e) w1 →
    YldG P (w.heap.size + 1) [v] w1 K) →
   Cl P gf (.func (.yield (w.heap.size + 1)) #[] #[] :: cap) ((w.alloc (.deferred (some []))).alloc (lo .ready none)) fun _ w3 =>
    ∃ st pe, w3.heap[w.heap.size + 1]? = some (lo st pe) ∧ st ≠ .busy ∧ (match pe with
     |none => SemM P N ⟨none, [coll w.heap.size]⟩ y (outQ w.heap.size Q) e (w3.putObj (w.heap.size + 1) (lo .exhausted none))
     |some .ret => outQ w.heap.size Q .ret e (w3.putObj (w.heap.size + 1) (lo .exhausted (some .ret)))
     |some _ => False)) : SemX P N (.seq (.rangeFunc g #[p] assign body) y) Q e w := by
 intro a hr
 refine (wpIn_wide (n := 0)).1 (wpIn_seq (rangeCore (A := fun w' => SemM P N ⟨none, [coll w.heap.size]⟩ y (outQ w.heap.size Q) e w') (B := fun w' => outQ w.heap.size Q .ret e w') hcall hg hp h (fun a' w' hr2 hm => ?_) (fun a' w' hr2 hm => ?_) hr))
 ·exact wpIn_mono (hm _ hr2) (fun x a w hl => outQ_lift hl)
 ·exact .inr ⟨e, _, hr2, hm⟩
def RgH (P : Program) (N : Nat) (g : Operand) (p : Tmp) (assign body y : Code) (Q : Exit → Env → World → Prop) (e : Env) (w : World) : Prop :=
 ∃ gf cap, (∀ (args : Array Value) (w : World), (callFunc gf args).run P w = .ok (.enter gf args) w) ∧ (evK e g fun v => v = .func (.func gf) #[] ⟨cap⟩) ∧
  ∀ (lo : LoopState → Option Code → Obj),
   (∀ (v : Value) (w1 : World) (K : Value → World → Prop), w1.heap[w.heap.size + 1]? = some (lo .ready none) →
    SemM P N ⟨some (w.heap.size + 1), []⟩ assign (thenQ (fun e1 w2 => w2.heap[w.heap.size + 1]? = some (lo .ready none) ∧ SemM P N ⟨some (w.heap.size + 1), []⟩ body (rndQ (w.heap.size + 1) lo K) e1 (w2.putObj (w.heap.size + 1) (lo .busy none))) (fun _ _ _ => False)) ((p, v) :: e) w1 →
    YldG P (w.heap.size + 1) [v] w1 K) →
   Cl P gf (.func (.yield (w.heap.size + 1)) #[] #[] :: cap) ((w.alloc (.deferred (some []))).alloc (lo .ready none)) fun _ w3 =>
    ∃ st pe, w3.heap[w.heap.size + 1]? = some (lo st pe) ∧ st ≠ .busy ∧ (match pe with
     |none => SemM P N ⟨none, [coll w.heap.size]⟩ y (outQ w.heap.size Q) e (w3.putObj (w.heap.size + 1) (lo .exhausted none))
     |some .ret => outQ w.heap.size Q .ret e (w3.putObj (w.heap.size + 1) (lo .exhausted (some .ret)))
     |some _ => False)
theorem SemX.rangeB {N id : Nat} {g : Operand} {p : Tmp} {r assign body y : Code} {Q : Exit → Env → World → Prop} {e : Env} {w : World} (hp : Nat.ble (p + 1) N = true)
  (h : SemW P N r (thenQ (RgH P N g p assign body y Q) fun _ _ _ => False) e w) : SemX P N (.seq (.seq r (.block id (.rangeFunc g #[p] assign body))) y) Q e w := by
 intro a hr
 refine wp_seq (wp_seq (Code.wp_mono (fun x a w hl => ?_) (h a hr)))
 cases x
 case normal =>
  obtain ⟨e, hr, gf, cap, hcall, hg, h⟩ := hl
  refine (wpIn_wide (n := 0)).1 (wpIn_block (rangeCore (A := fun w' => SemM P N ⟨none, [coll w.heap.size]⟩ y (outQ w.heap.size Q) e w') (B := fun w' => outQ w.heap.size Q .ret e w') hcall hg hp h (fun a' w' hr2 hm => ?_) (fun a' w' hr2 hm => ?_) hr))
  ·exact (wpIn_wide (n := 0)).1 (wpIn_mono (hm _ hr2) (fun x a w hl => outQ_lift hl))
  ·exact .inr ⟨e, _, hr2, hm⟩
 case panic => exact hl.elim
 case outgrown => exact hl.elim
 all_goals (obtain ⟨_, _, h⟩ := hl; exact h.elim)
theorem Cl.enterX {P : Program} {T : Tbl} (hT : TOk P T) {f : FuncId} {fn : Func} {c : Code} {N : Nat} {args : List Value} {w : World} {R : Value → World → Prop}
  (hcall : ∀ (args : Array Value) (w : World), (callFunc f args).run P w = .ok (.enter f args) w) (hf : P.funcs[f]? = some fn) (hN : fn.ntmps = N) (hb : fn.body = some c) {rs : List ResultVar} (hrs : fn.results = ⟨rs⟩)
  (hlen : Nat.ble args.length N = true) (h : SemX P N c (retQ T rs R) (argEnv 0 args) w) : Cl P f args w R := by
 refine .inl ⟨hcall _ _, (callsIn_wide (n := 0)).1 (callsIn_of_wp_marks hf hb trivial ?_)⟩
 have hle := kDm hlen
 have hr : Rel [] N (argEnv 0 args) ⟨⟨args⟩ ++ Array.replicate (fn.ntmps - (Array.mk args).size) undef, []⟩ := by
  refine ⟨by simp [hN]; omega, rfl, fun n v hv => ?_⟩
  obtain ⟨_, h2⟩ := argEnv_get args 0 n v hv
  simp only [Nat.sub_zero] at h2
  have hlt : n < args.length := (kBt.1 h2).1
  rw [Array.getElem?_append_left (by simpa using hlt)]
  simpa using h2
 refine (wpIn_wide (n := 0)).2 (Code.wp_mono (fun x a w hl => ?_) (h _ hr))
 have fin : ∀ e w ds, Rel ds N e a → (resK T e w rs fun vs => retG vs fun v => R v w) → ∃ v, (results fn a.tmps).run P w = .ok v w ∧ ∃ v', Ending.returned v = .returned v' ∧ R v' w := by
  intro e w ds hr h
  obtain ⟨vs, h1, h2⟩ := resK_iff hT hr h
  have hm : (results fn a.tmps).run P w = .ok (if h : vs.length = 1 then vs[0] else .tuple ⟨vs⟩) w := by
   unfold results
   rw [hrs]
   simp only [Sem.run_bind]
   rw [Array.mapM_eq_mapM_toList]
   simp only [Sem.run_map]
   generalize hM : Sem.run P (List.mapM _ rs) w = r
   have h1' : r = .ok vs w := hM.symm.trans h1
   subst h1'
   simp
  refine ⟨_, hm, _, rfl, ?_⟩
  unfold retG at h2
  split at h2
  ·simpa using h2
  ·rename_i hne
   rw [dif_neg (by intro hl; obtain ⟨v, rfl⟩ := kDk.1 hl; exact hne v rfl)]
   exact h2
 have out : ((∃ e, Rel [] N e a ∧ (resK T e w rs fun vs => retG vs fun v => R v w)) ∨ ∃ e D, Rel [coll D] N e a ∧ w.heap[D]? = some (.deferred (some [])) ∧ (resK T e (w.putObj D (.deferred none)) rs fun vs => retG vs fun v => R v (w.putObj D (.deferred none)))) →
   LeavesInM Fence.wide 0 P fn a.tmps (fun e w' => ∃ v, e = .returned v ∧ R v w') a.defers .returning w := by
  rintro (⟨e, h1, h2⟩ | ⟨e, D, h1, h2, h3⟩)
  ·rw [h1.dz]
   exact fin e w _ h1 h2
  ·rw [h1.dz]
   exact ⟨nofun, .inl ⟨D, _, rfl, run_takeDeferred h2, fin e _ _ h1 h3⟩⟩
 cases x with
 |normal => exact out hl
 |ret => exact out hl
 |exit id =>
  rcases hl with ⟨e, _, h⟩ | ⟨e, D, _, _, h⟩ <;> exact h.elim
 |goto l =>
  rcases hl with ⟨e, _, h⟩ | ⟨e, D, _, _, h⟩ <;> exact h.elim
 |panic c => exact hl.elim
 |outgrown => exact hl.elim
theorem St.rng {w0 w : World} {T : List Nat} {H : Heap} (hS : St w0 T H w) (x y : Obj) : St w0 T ((w.heap.size + 1, y) :: (w.heap.size, x) :: H) ((w.alloc x).alloc y) := by
 have := (hS.alloc x).alloc y
 rwa [show (w.alloc x).heap.size = w.heap.size + 1 by simp] at this
theorem St.put {w0 w : World} {T : List Nat} {H : Heap} {b : Nat} {o : Obj} {F : Obj → Heap} (hS : St w0 T H w) [hs : Slot H b o F] (o' : Obj) : St w0 T (F o') (w.putObj b o') :=
 hS.setBlock (o' := o') rfl rfl rfl (by simp) (fun k hk => World.putObj_heap_other hk) (World.putObj_heap_same (Array.getElem?_eq_some_iff.1 hS.mem).1)
end Go.Eng
namespace Go.Eng
open Go
theorem slice3 {P : Program} {T0 : Tbl} (hT : TOk P T0) {t e : TypeId} {sz : Nat} {i : TI} (hi : tf T0 t = some i) (hk : i.k = .slice e sz) {C : World → Prop} {g off len cap : Nat} {kl kh km : IntKind} {l h m : Nat} (h1 : l ≤ h) (h2 : h ≤ m) (h3 : m ≤ cap) {K : Value → Prop} (hK : K (.slice (if m = l then some ⟨g, off, none⟩ else some ⟨g, off + l * sz, none⟩) (h - l) (m - l))) :
  RdG P (Instr.sliceAt t (.slice (some ⟨g, off, none⟩) len cap) (some (.int kl (l : Int))) (some (.int kh (h : Int))) (some (.int km (m : Int)))) C K := by
 refine ⟨⟨_, fun w _ => ?_, hK⟩⟩
 have ht := und_of hT hi; rw [hk] at ht
 obtain ⟨hu, hs⟩ := ht
 have hel : P.elem t = e := by simp [Program.elem, hu]
 have hu' : P.underlying t = some (.slice (P.elem t)) := by rw [hel]; exact hu
 cases hinf : P.info? e with
 |none => rw [hinf] at hs; simp at hs
 |some inf =>
  rw [hinf] at hs
  have hs1 : inf.size = sz := by simpa using hs
  rw [run_sliceAt_slice w t _ _ _ _ hu', run_slice_any w t _ _ _ hu']
  simp [Instr.sliceBounds, run_sliceBound, hel, sizeOf, typeInfo, hinf, hs1, Result.andThen, sliced, Addr.add_eq, (by omega : (l : Int) ≤ h), (by omega : (h : Int) ≤ m), (by omega : (m : Int) ≤ cap)]
end Go.Eng
namespace Go.Proofs.YtkgibdhpijdbfaaGreatDoor
open Go Go.Eng Go.Proofs
theorem Chunk_spec {w : World} {a : Option Addr} {n c m : Nat} (hm : 1 ≤ m) :
  Cl Tryz.prog f_slices_Chunk_api_Entry_api_Entry [.slice a n c, .int .i64 m] w fun v w' => ∃ b2 b3, v = .func (.func f_slices_Chunk_api_Entry_api_Entry_1) ⟨[]⟩ ⟨[ptr b2, ptr b3]⟩ ∧ St w [] [(b3, .cells ⟨[.int .i64 m]⟩ T_int (0, 0)), (b2, .cells ⟨[.slice a n c]⟩ T_Sl_api_Entry (0, 0))] w' := by
 have hS := St.start w
 refine en_slices_Chunk_api_Entry_api_Entry rfl ?_
 refine jq ⟨?_⟩
 refine hS.al ?_
 intro b2 w1 _ hS
 refine jq ⟨?_⟩
 refine hS.al ?_
 intro b3 w2 _ hS
 (repeat (refine jt ⟨?_⟩; refine hS.st rfl rfl ?_; intro _ hS)); refine jt ⟨?_⟩
 refine RunG.of rfl ?_
 refine jq ⟨?_⟩
 exact ⟨b2, b3, rfl, hS⟩
theorem ldcI {Inv : World → Prop} {a : Addr} {v : Value} (h : ∀ w, Inv w → w.cell? a = some v) {K : Value → Prop} (hk : K v) : LdC (fun w' => Inv w') a K := ⟨⟨v, fun w hw => h w hw, hk⟩⟩
set_option maxHeartbeats 2000000 in
theorem ChunkIt_spec {w : World} {a : Option Addr} {g o c b2 b3 m l n : Nat} (hm : 1 ≤ m ∧ m ≤ 1099511627776) (hn : n ≤ 1099511627776) (hc : n ≤ c) (ha : 0 < n → a = some ⟨g, o, none⟩) (Inv : Nat → World → Prop) (Stop : World → Prop)
  (h2 : ∀ i w', Inv i w' → w'.cell? ⟨b2, 0, none⟩ = some (.slice a n c)) (h3 : ∀ i w', Inv i w' → w'.cell? ⟨b3, 0, none⟩ = some (.int .i64 m)) (hd : ∀ i w', Inv i w' → Inv i w'.drew)
  (hy : ∀ i w', i * m < n → Inv i w' → ∀ K : Value → World → Prop, (∀ w2, Inv (i + 1) w2 → K (.bool true) w2) → (∀ w2, Stop w2 → K (.bool false) w2) → YldG Tryz.prog l [.slice (some ⟨g, o + i * m * 4, none⟩) (min m (n - i * m)) (min m (n - i * m))] w' K)
  (h0 : Inv 0 w) : Cl Tryz.prog f_slices_Chunk_api_Entry_api_Entry_1 [.func (.yield l) ⟨[]⟩ ⟨[]⟩, ptr b2, ptr b3] w fun _ w' => (∃ i, n ≤ i * m ∧ Inv i w') ∨ Stop w' := by
 refine en_slices_Chunk_api_Entry_api_Entry_1 rfl ?_
 refine SemM.toW ?_
 repeat (first | refine SemM.run tblOk ?_ | ((first | refine jA ?_ ?_ | refine jB ?_ ?_ | refine jC ?_ ?_ | refine jD ?_ ?_); omega) | refine jE rfl ?_ | refine jF (by first | omega | exact ptr_ok tblOk rfl rfl | decide) ?_ | (refine jG ?_; first | with_reducible (first | apply jH | apply jI | apply jJ | apply jK | apply jL) | refine jM (by omega) ?_ | refine jN (by omega) ?_ | with_reducible refine jM rfl ?_ | refine jM (by first | assumption | decide) ?_ | refine jN (by first | assumption | decide) ?_) | refine jO (fun _ => by kernel_rfl) ?_)
 refine SemM.loop (fun i : Nat => [(0, .func (.yield l) ⟨[]⟩ ⟨[]⟩), (1, ptr b2), (2, ptr b3), (4, .int .i64 ((i * m : Nat) : Int))])
  (fun i w' => Inv i w') (fun i => n - i * m) 0 ⟨rfl, rfl, rfl, by rw [Nat.zero_mul]; rfl, trivial⟩ h0 ?_
 intro i w1 hI
 have hc2 := h2 i w1 hI
 have hc3 := h3 i w1 hI
 have hyi := hy i w1.drew
 have hsm : (i + 1) * m = i * m + m := by rw [kCg, Nat.one_mul]
 generalize hp : i * m = p at hsm hyi ⊢
 repeat (first | refine SemM.run tblOk ?_ | ((first | refine jA ?_ ?_ | refine jB ?_ ?_ | refine jC ?_ ?_ | refine jD ?_ ?_); omega) | refine jE rfl ?_ | refine jF (by first | omega | exact ptr_ok tblOk rfl rfl | decide) ?_ | (refine jG ?_; first | with_reducible (first | apply jH | apply jI | apply jJ | apply jK | apply jL) | refine jM (by omega) ?_ | refine jN (by omega) ?_ | with_reducible refine jM rfl ?_ | refine jM (by first | assumption | decide) ?_ | refine jN (by first | assumption | decide) ?_) | refine jO (fun _ => by kernel_rfl) ?_)
 refine ⟨⟨_, fun _ e => by subst e; exact hc2, ?_⟩⟩
 repeat (first | refine SemM.run tblOk ?_ | ((first | refine jA ?_ ?_ | refine jB ?_ ?_ | refine jC ?_ ?_ | refine jD ?_ ?_); omega) | refine jE rfl ?_ | refine jF (by first | omega | exact ptr_ok tblOk rfl rfl | decide) ?_ | (refine jG ?_; first | with_reducible (first | apply jH | apply jI | apply jJ | apply jK | apply jL) | refine jM (by omega) ?_ | refine jN (by omega) ?_ | with_reducible refine jM rfl ?_ | refine jM (by first | assumption | decide) ?_ | refine jN (by first | assumption | decide) ?_) | refine jO (fun _ => by kernel_rfl) ?_)
 by_cases hpn : p < n
 ·obtain rfl := ha (by omega)
  repeat (first | refine SemM.run tblOk ?_ | ((first | refine jA ?_ ?_ | refine jB ?_ ?_ | refine jC ?_ ?_ | refine jD ?_ ?_); omega) | refine jE rfl ?_ | refine jF (by first | omega | exact ptr_ok tblOk rfl rfl | decide) ?_ | (refine jG ?_; first | with_reducible (first | apply jH | apply jI | apply jJ | apply jK | apply jL) | refine jM (by omega) ?_ | refine jN (by omega) ?_ | with_reducible refine jM rfl ?_ | refine jM (by first | assumption | decide) ?_ | refine jN (by first | assumption | decide) ?_) | refine jO (fun _ => by kernel_rfl) ?_)
  refine SemM.draw tblOk mixed (fun w' => Inv i w') [] [0, 1, 2, 3, 4, 5, 6] (by kernel_rfl) (hd i w1 hI) ?_
  have hI := hd i w1 hI
  refine ldcI (Inv := Inv i) (h3 i) ?_
  repeat (first | refine SemM.run tblOk ?_ | ((first | refine jA ?_ ?_ | refine jB ?_ ?_ | refine jC ?_ ?_ | refine jD ?_ ?_); omega) | refine jE rfl ?_ | refine jF (by first | omega | exact ptr_ok tblOk rfl rfl | decide) ?_ | (refine jG ?_; first | with_reducible (first | apply jH | apply jI | apply jJ | apply jK | apply jL) | refine jM (by omega) ?_ | refine jN (by omega) ?_ | with_reducible refine jM rfl ?_ | refine jM (by first | assumption | decide) ?_ | refine jN (by first | assumption | decide) ?_) | refine jO (fun _ => by kernel_rfl) ?_)
  refine ldcI (Inv := Inv i) (h2 i) ?_
  repeat (first | refine SemM.run tblOk ?_ | ((first | refine jA ?_ ?_ | refine jB ?_ ?_ | refine jC ?_ ?_ | refine jD ?_ ?_); omega) | refine jE rfl ?_ | refine jF (by first | omega | exact ptr_ok tblOk rfl rfl | decide) ?_ | (refine jG ?_; first | with_reducible (first | apply jH | apply jI | apply jJ | apply jK | apply jL) | refine jM (by omega) ?_ | refine jN (by omega) ?_ | with_reducible refine jM rfl ?_ | refine jM (by first | assumption | decide) ?_ | refine jN (by first | assumption | decide) ?_) | refine jO (fun _ => by kernel_rfl) ?_)
  refine ⟨⟨_, fun _ e => by subst e; exact h2 i _ hI, ?_⟩⟩
  have hmin : (if ((n - ((p : Int)).toNat : Nat) : Int) < (m : Int) then ((n - ((p : Int)).toNat : Nat) : Int) else (m : Int)) = ((min m (n - p) : Nat) : Int) := by split <;> omega
  rw [hmin]
  generalize hq : min m (n - p) = q at hyi
  have hqb : q ≤ m ∧ q ≤ n - p := by omega
  repeat (first | refine SemM.run tblOk ?_ | ((first | refine jA ?_ ?_ | refine jB ?_ ?_ | refine jC ?_ ?_ | refine jD ?_ ?_); omega) | refine jE rfl ?_ | refine jF (by first | omega | exact ptr_ok tblOk rfl rfl | decide) ?_ | (refine jG ?_; first | with_reducible (first | apply jH | apply jI | apply jJ | apply jK | apply jL) | refine jM (by omega) ?_ | refine jN (by omega) ?_ | with_reducible refine jM rfl ?_ | refine jM (by first | assumption | decide) ?_ | refine jN (by first | assumption | decide) ?_) | refine jO (fun _ => by kernel_rfl) ?_)
  rw [show (p : Int) + (q : Int) = ((p + q : Nat) : Int) by simp]
  refine slice3 tblOk rfl rfl (by omega) (kAd _) (by omega) ?_
  rw [if_neg (by omega), Nat.add_sub_cancel_left]
  repeat (first | refine SemM.run tblOk ?_ | ((first | refine jA ?_ ?_ | refine jB ?_ ?_ | refine jC ?_ ?_ | refine jD ?_ ?_); omega) | refine jE rfl ?_ | refine jF (by first | omega | exact ptr_ok tblOk rfl rfl | decide) ?_ | (refine jG ?_; first | with_reducible (first | apply jH | apply jI | apply jJ | apply jK | apply jL) | refine jM (by omega) ?_ | refine jN (by omega) ?_ | with_reducible refine jM rfl ?_ | refine jM (by first | assumption | decide) ?_ | refine jN (by first | assumption | decide) ?_) | refine jO (fun _ => by kernel_rfl) ?_)
  refine hyi hpn hI _ (fun w2 hI2 => ?_) (fun w2 hst => ?_)
  rotate_left
  ·repeat (first | refine SemM.run tblOk ?_ | ((first | refine jA ?_ ?_ | refine jB ?_ ?_ | refine jC ?_ ?_ | refine jD ?_ ?_); omega) | refine jE rfl ?_ | refine jF (by first | omega | exact ptr_ok tblOk rfl rfl | decide) ?_ | (refine jG ?_; first | with_reducible (first | apply jH | apply jI | apply jJ | apply jK | apply jL) | refine jM (by omega) ?_ | refine jN (by omega) ?_ | with_reducible refine jM rfl ?_ | refine jM (by first | assumption | decide) ?_ | refine jN (by first | assumption | decide) ?_) | refine jO (fun _ => by kernel_rfl) ?_)
   exact .inr hst
  repeat (first | refine SemM.run tblOk ?_ | ((first | refine jA ?_ ?_ | refine jB ?_ ?_ | refine jC ?_ ?_ | refine jD ?_ ?_); omega) | refine jE rfl ?_ | refine jF (by first | omega | exact ptr_ok tblOk rfl rfl | decide) ?_ | (refine jG ?_; first | with_reducible (first | apply jH | apply jI | apply jJ | apply jK | apply jL) | refine jM (by omega) ?_ | refine jN (by omega) ?_ | with_reducible refine jM rfl ?_ | refine jM (by first | assumption | decide) ?_ | refine jN (by first | assumption | decide) ?_) | refine jO (fun _ => by kernel_rfl) ?_)
  refine ⟨⟨_, fun _ e => by subst e; exact h3 (i + 1) _ hI2, ?_⟩⟩
  repeat (first | refine SemM.run tblOk ?_ | ((first | refine jA ?_ ?_ | refine jB ?_ ?_ | refine jC ?_ ?_ | refine jD ?_ ?_); omega) | refine jE rfl ?_ | refine jF (by first | omega | exact ptr_ok tblOk rfl rfl | decide) ?_ | (refine jG ?_; first | with_reducible (first | apply jH | apply jI | apply jJ | apply jK | apply jL) | refine jM (by omega) ?_ | refine jN (by omega) ?_ | with_reducible refine jM rfl ?_ | refine jM (by first | assumption | decide) ?_ | refine jN (by first | assumption | decide) ?_) | refine jO (fun _ => by kernel_rfl) ?_)
  exact ⟨i + 1, ⟨rfl, rfl, rfl, by rw [hsm]; rfl, trivial⟩, hI2, by rw [hsm]; omega⟩
 ·repeat (first | refine SemM.run tblOk ?_ | ((first | refine jA ?_ ?_ | refine jB ?_ ?_ | refine jC ?_ ?_ | refine jD ?_ ?_); omega) | refine jE rfl ?_ | refine jF (by first | omega | exact ptr_ok tblOk rfl rfl | decide) ?_ | (refine jG ?_; first | with_reducible (first | apply jH | apply jI | apply jJ | apply jK | apply jL) | refine jM (by omega) ?_ | refine jN (by omega) ?_ | with_reducible refine jM rfl ?_ | refine jM (by first | assumption | decide) ?_ | refine jN (by first | assumption | decide) ?_) | refine jO (fun _ => by kernel_rfl) ?_)
  exact .inl ⟨i, by omega, hI⟩
end Go.Proofs.YtkgibdhpijdbfaaGreatDoor
namespace Go.Proofs.YtkgibdhpijdbfaaGreatDoor
open Go Go.Eng Go.Proofs
theorem enX_store_Store_lay {args : List Value} {w : World} {R : Value → World → Prop} (hlen : Nat.ble args.length 59 = true) (h : SemX Tryz.prog 59 (Tryz.f96.body.getD .skip) (retQ tbl [.cell 8 56, .cell 9 61, .cell 10 33] R) (argEnv 0 args) w) : Cl Tryz.prog 96 args w R :=
 Cl.enterX tblOk Tryz.call96 Tryz.func96 Tryz.ntmps96 rfl Tryz.results96 hlen h
theorem enX_table_Build {args : List Value} {w : World} {R : Value → World → Prop} (hlen : Nat.ble args.length 87 = true) (h : SemX Tryz.prog 87 (Tryz.f130.body.getD .skip) (retQ tbl [.tmp 2, .tmp 3] R) (argEnv 0 args) w) : Cl Tryz.prog 130 args w R :=
 Cl.enterX tblOk Tryz.call130 Tryz.func130 Tryz.ntmps130 rfl Tryz.results130 hlen h
theorem enX_slices_AppendSeq_int_int {args : List Value} {w : World} {R : Value → World → Prop} (hlen : Nat.ble args.length 13 = true) (h : SemX Tryz.prog 13 (Tryz.f144.body.getD .skip) (retQ tbl [.tmp 4] R) (argEnv 0 args) w) : Cl Tryz.prog 144 args w R :=
 Cl.enterX tblOk Tryz.call144 Tryz.func144 Tryz.ntmps144 rfl Tryz.results144 hlen h
theorem call_maps_Values_map_int_int_int_int_1 : ∀ (args : Array Value) (w : World), (callFunc 145 args).run Tryz.prog w = .ok (.enter 145 args) w := Tryz.call145
theorem call_slices_Chunk_api_Entry_api_Entry_1 : ∀ (args : Array Value) (w : World), (callFunc 182 args).run Tryz.prog w = .ok (.enter 182 args) w := Tryz.call182
structure BIx where
 i : Nat
set_option maxRecDepth 8000 in
set_option maxHeartbeats 8000000 in
theorem TBuild_spec {w : World} {a : Option Addr} {c : Nat} {l : List EntM} (ha : Arr w [] a (l.flatMap entC)) (hc : l.length ≤ c) (ht : TabF l) :
  Cl Tryz.prog f_table_Build [.slice a l.length c] w fun v w' => v = .tuple ⟨[Str (tableB l), .int .i64 0]⟩ ∧ St w [] [] w' := by
 have hS := St.start w
 have hl64 := ht.len
 obtain ⟨P, hP⟩ : ∃ P, pieces 8 l = P := ⟨_, rfl⟩
 have hpl : P.length = (l.length + 8 - 1) / 8 := by rw [← hP]; exact pieces_len 8 l
 have hcnt : P.length ≤ 8 := by rw [← hP]; exact ht.cnt
 refine enX_table_Build rfl ?_
 refine SemX.seq ?_
 refine jq ⟨?_⟩
 refine SemX.seq ?_
 refine jq ⟨?_⟩
 refine (EncodeB_spec ha ht.rise ht.fine ht.fit (by omega)).mono ?_
 rintro _ w1 ⟨rfl, hS'⟩
 have hS := hS.call0 hS'
 refine jq ⟨?_⟩
 refine SemX.seq ?_
 refine jq ⟨?_⟩
 refine PNew_spec.mono ?_
 rintro _ w2 ⟨ib, Li, rfl, hI, hS'⟩
 have hS := hS.callNew hS'
 refine jq ⟨?_⟩
 refine PNew_spec.mono ?_
 rintro _ w3 ⟨fb, Lf, rfl, hF, hS'⟩
 have hS := hS.callNew hS'
 refine jq ⟨?_⟩
 refine hS.al ?_
 intro b6 w4 _ hS
 (repeat (refine jt ⟨?_⟩; refine hS.st rfl rfl ?_; intro _ hS)); refine jt ⟨?_⟩
 refine SemX.seq ?_
 (repeat (refine jt ⟨?_⟩; refine hS.st rfl rfl ?_; intro _ hS)); refine jt ⟨?_⟩
 have hdiv : ((l.length : Int) + 8 - 1).tdiv 8 = ((P.length : Nat) : Int) := by
  rw [show (l.length : Int) + 8 - 1 = ((l.length + 8 - 1 : Nat) : Int) by omega, show (8 : Int) = ((8 : Nat) : Int) from rfl, ← Int.ofNat_tdiv, hpl]
 rw [hdiv]
 (repeat (refine jt ⟨?_⟩; refine hS.st rfl rfl ?_; intro _ hS)); refine jt ⟨?_⟩
 refine hS.al ?_
 intro b30 w5 _ hS
 (repeat (refine jt ⟨?_⟩; refine hS.st rfl rfl ?_; intro _ hS)); refine jt ⟨?_⟩
 have hn10 := numB_len10 P.length (by omega)
 refine Cl.mono (Num_spec hI (hS.part (L := Li)) (ns := [P.length]) (hS.arr (b := b30) (nodup_chunk hS)) (by intro m hm; simp only [kAy] at hm; subst hm; omega) (by simp) (by simp)) ?_
 rintro _ w6 ⟨Li, hI, hS'⟩
 have hS := hS.call hS'
 have hS := hS.sub (kAb _ _)
 rw [show [] ++ ([P.length].map numB).flatten = numB P.length by simp] at hI
 (repeat (refine jt ⟨?_⟩; refine hS.st rfl rfl ?_; intro _ hS)); refine jt ⟨?_⟩
 refine SemX.seq ?_
 (repeat (refine jt ⟨?_⟩; refine hS.st rfl rfl ?_; intro _ hS)); refine jt ⟨?_⟩
 refine hS.al ?_
 intro b8 w7 _ hS
 (repeat (refine jt ⟨?_⟩; refine hS.st rfl rfl ?_; intro _ hS)); refine jt ⟨?_⟩
 refine SemX.seq ?_
 (repeat (refine jt ⟨?_⟩; refine hS.st rfl rfl ?_; intro _ hS)); refine jt ⟨?_⟩
 refine hS.al ?_
 intro b9 w8 _ hS
 (repeat (refine jt ⟨?_⟩; refine hS.st rfl rfl ?_; intro _ hS)); refine jt ⟨?_⟩
 refine SemX.rangeB rfl ?_
 (repeat (refine jt ⟨?_⟩; refine hS.st rfl rfl ?_; intro _ hS)); refine jt ⟨?_⟩
 refine (Chunk_spec (m := 8) (by decide)).mono ?_
 rintro _ w9 ⟨b2, b3, rfl, hS'⟩
 have hS := hS.callNew hS'
 (repeat (refine jt ⟨?_⟩; refine hS.st rfl rfl ?_; intro _ hS)); refine jt ⟨?_⟩
 refine ⟨_, [ptr b2, ptr b3], call_slices_Chunk_api_Entry_api_Entry_1, rfl, ?_⟩
 intro lo hy
 have hS := hS.rng (.deferred (some [])) (lo .ready none)
 generalize hlp : w9.heap.size + 1 = lp at hS hy ⊢
 generalize hD : w9.heap.size = D at hS ⊢
 generalize (w9.alloc (.deferred (some []))).alloc (lo .ready none) = w10 at hS ⊢
 have hPg : ∀ i, i < P.length → i * 8 < l.length ∧ P[i]? = some ((l.drop (i * 8)).take 8) := by
  rw [← hP]
  intro i hi
  exact ⟨pieces_lt (by omega) hi, by rw [kAp hi, pieces_get hi]⟩
 have hidx : ∀ i, (idxP (P.take i) P.length).1.length ≤ 1048576 ∧ (idxP (P.take i) P.length).2 ≤ 1048576 := by rw [← hP]; exact ht.idx
 have hst0 : St w [] ((lp, lo .ready none) :: (D, .deferred (some [])) :: (b3, .cells ⟨[.int .i64 8]⟩ T_int (0, 0)) :: (b2, .cells ⟨[.slice a l.length c]⟩ T_Sl_api_Entry (0, 0)) :: (b9, .cells ⟨[.int .i64 (idxP (P.take 0) P.length).2]⟩ T_int (0, 0)) ::
   (b8, .cells ⟨[.slice none 0 0]⟩ T_Sl_string (0, 0)) :: ([] ++ ((b6, .cells ⟨[ptr ib]⟩ T_Ptr_pack_Writer (0, 0)) :: (Lf ++ (Li ++ []))))) w10 := hS
 clear hS
 refine Cl.mono (ChunkIt_spec (g := (a.getD ⟨0, 0, none⟩).block) (o := (a.getD ⟨0, 0, none⟩).off) (m := 8) (a := a) (by decide) (by omega) hc ?_
  (fun i w' => i ≤ P.length ∧ ∃ a8 c8 L8 Li, Vec T_string 1 a8 i c8 (((P.take i).map blockB).map Str) L8 ∧ PackW ib (idxP (P.take i) P.length).1 Li ∧
   St w [] ((lp, lo .ready none) :: (D, .deferred (some [])) :: (b3, .cells ⟨[.int .i64 8]⟩ T_int (0, 0)) :: (b2, .cells ⟨[.slice a l.length c]⟩ T_Sl_api_Entry (0, 0)) :: (b9, .cells ⟨[.int .i64 (idxP (P.take i) P.length).2]⟩ T_int (0, 0)) ::
   (b8, .cells ⟨[.slice a8 i c8]⟩ T_Sl_string (0, 0)) :: (L8 ++ ((b6, .cells ⟨[ptr ib]⟩ T_Ptr_pack_Writer (0, 0)) :: (Lf ++ (Li ++ []))))) w') (fun _ => False) ?_ ?_ ?_ ?_ ⟨kAg _, none, 0, [], Li, Vec.nil, hI, hst0⟩) ?_
 ·intro hl0
  obtain ⟨g, off, rfl, -⟩ := ent_at ha hl0
  rfl
 ·rintro i w' ⟨-, a8, c8, L8, Li, -, -, hS⟩
  have := hS.mem (b := b2)
  simp [World.cell?, this]
 ·rintro i w' ⟨-, a8, c8, L8, Li, -, -, hS⟩
  have := hS.mem (b := b3)
  simp [World.cell?, this]
 ·rintro i w' ⟨h1, a8, c8, L8, Li, h2, h3, hS⟩
  exact ⟨h1, a8, c8, L8, Li, h2, h3, hS.drew⟩
 ·rintro i w' hi ⟨hile, a8, c8, L8, Li, hV, hI, hS⟩ K hK _
  refine hy _ w' K (hS.mem (b := lp)) ?_
  repeat (first | refine SemM.run tblOk ?_ | ((first | refine jA ?_ ?_ | refine jB ?_ ?_ | refine jC ?_ ?_ | refine jD ?_ ?_); omega) | refine jE rfl ?_ | refine jF (by first | omega | exact ptr_ok tblOk rfl rfl | decide) ?_ | (refine jG ?_; first | with_reducible (first | apply jH | apply jI | apply jJ | apply jK | apply jL) | refine jM (by omega) ?_ | refine jN (by omega) ?_ | with_reducible refine jM rfl ?_ | refine jM (by first | assumption | decide) ?_ | refine jN (by first | assumption | decide) ?_) | refine jO (fun _ => by kernel_rfl) ?_)
  refine ⟨hS.mem (b := lp), ?_⟩
  have hS := hS.put (b := lp) (lo .busy none)
  generalize w'.putObj lp (lo .busy none) = w11 at hS ⊢
  have hS := hS
  repeat (first | refine SemM.run tblOk ?_ | ((first | refine jA ?_ ?_ | refine jB ?_ ?_ | refine jC ?_ ?_ | refine jD ?_ ?_); omega) | refine jE rfl ?_ | refine jF (by first | omega | exact ptr_ok tblOk rfl rfl | decide) ?_ | (refine jG ?_; first | with_reducible (first | apply jH | apply jI | apply jJ | apply jK | apply jL) | refine jM (by omega) ?_ | refine jN (by omega) ?_ | with_reducible refine jM rfl ?_ | refine jM (by first | assumption | decide) ?_ | refine jN (by first | assumption | decide) ?_) | refine jO (fun _ => by kernel_rfl) ?_)
  obtain ⟨g, off, rfl, -⟩ := ent_at ha (show 0 < l.length by omega)
  have hiP : i < P.length := by omega
  obtain ⟨-, hPi⟩ := hPg i hiP
  have hpt := ht.piece i
  have hmn : min 8 (l.length - i * 8) = ((l.drop (i * 8)).take 8).length := by rw [kAo, kBf]
  have hpa : ∀ {w2 : World} {H : Heap}, St w [] H w2 → Arr w2 [] (some ⟨g, off + i * 8 * 4, none⟩) (((l.drop (i * 8)).take 8).flatMap entC) := by
   intro w2 H h
   have h1 := part_arr (h.arrOld ha) hc (p := i * 8) (n := min 8 (l.length - i * 8)) (by omega)
   unfold subA at h1
   rw [if_neg (by omega)] at h1
   rw [hmn, show ((l.drop (i * 8)).take ((l.drop (i * 8)).take 8).length) = (l.drop (i * 8)).take 8 by rw [kAo, ← List.take_eq_take_min]] at h1
   exact h1
  rw [hmn]
  have hplen : ((l.drop (i * 8)).take 8).length ≤ 8 ∧ 0 < ((l.drop (i * 8)).take 8).length := by omega
  have hsucc : P.take (i + 1) = P.take i ++ [(l.drop (i * 8)).take 8] := by rw [List.take_add_one, hPi]; rfl
  have hid0 := hidx i
  have hid1 := hidx (i + 1)
  rw [hsucc, idxP_snoc] at hid1
  generalize hp : (l.drop (i * 8)).take 8 = p at hpt hpa hplen hsucc hid1 ⊢
  have hbl := hpt.block
  have hlk := lastK_get hplen.2
  have hkl : (p[p.length - 1]'(by omega)).k.length ≤ 4096 := by
   have := hpt.sz _ (kAx (show p.length - 1 < p.length by omega))
   unfold szE at this; omega
  unfold idxF at hid1
  simp only at hid1
  rw [hlk] at hid1
  generalize hix : idxP (P.take i) P.length = ix at hI hS hid0 hid1
  obtain ⟨xb, xa⟩ := ix
  simp only at hI hS hid0 hid1
  refine Cl.mono (EncodeB_spec (hpa hS.nil) hpt.rise hpt.fine hpt.fit (by omega)) ?_
  rintro _ w13 ⟨rfl, hS'⟩
  have hS := hS.call0 hS'
  generalize hbb : blockB p = bb at hbl hid1 ⊢
  repeat (first | refine SemM.run tblOk ?_ | ((first | refine jA ?_ ?_ | refine jB ?_ ?_ | refine jC ?_ ?_ | refine jD ?_ ?_); omega) | refine jE rfl ?_ | refine jF (by first | omega | exact ptr_ok tblOk rfl rfl | decide) ?_ | (refine jG ?_; first | with_reducible (first | apply jH | apply jI | apply jJ | apply jK | apply jL) | refine jM (by omega) ?_ | refine jN (by omega) ?_ | with_reducible refine jM rfl ?_ | refine jM (by first | assumption | decide) ?_ | refine jN (by first | assumption | decide) ?_) | refine jO (fun _ => by kernel_rfl) ?_ | refine hS.ld rfl ?_ | refine hS.ldn rfl ?_ | (refine hS.st rfl rfl ?_; intro _ hS))
  refine hS.al ?_
  intro b42 w14 _ hS
  repeat (first | refine SemM.run tblOk ?_ | ((first | refine jA ?_ ?_ | refine jB ?_ ?_ | refine jC ?_ ?_ | refine jD ?_ ?_); omega) | refine jE rfl ?_ | refine jF (by first | omega | exact ptr_ok tblOk rfl rfl | decide) ?_ | (refine jG ?_; first | with_reducible (first | apply jH | apply jI | apply jJ | apply jK | apply jL) | refine jM (by omega) ?_ | refine jN (by omega) ?_ | with_reducible refine jM rfl ?_ | refine jM (by first | assumption | decide) ?_ | refine jN (by first | assumption | decide) ?_) | refine jO (fun _ => by kernel_rfl) ?_ | refine hS.ld rfl ?_ | refine hS.ldn rfl ?_ | (refine hS.st rfl rfl ?_; intro _ hS))
  refine St.app (sz := 1) (m := 1) tblOk rfl rfl rfl rfl hS hV (news := [Str bb]) rfl (by have := hS.arr (b := b42) (T' := []) (by simp); exact this) rfl (by show (_ + _) * 16 ≤ _; omega) (by omega) ?_
  intro a9 c9 L9 w15 hV hS
  repeat (first | refine SemM.run tblOk ?_ | ((first | refine jA ?_ ?_ | refine jB ?_ ?_ | refine jC ?_ ?_ | refine jD ?_ ?_); omega) | refine jE rfl ?_ | refine jF (by first | omega | exact ptr_ok tblOk rfl rfl | decide) ?_ | (refine jG ?_; first | with_reducible (first | apply jH | apply jI | apply jJ | apply jK | apply jL) | refine jM (by omega) ?_ | refine jN (by omega) ?_ | with_reducible refine jM rfl ?_ | refine jM (by first | assumption | decide) ?_ | refine jN (by first | assumption | decide) ?_) | refine jO (fun _ => by kernel_rfl) ?_ | refine hS.ld rfl ?_ | refine hS.ldn rfl ?_ | (refine hS.st rfl rfl ?_; intro _ hS))
  have hS := hS.sub (kAb _ _)
  refine SemM.draw tblOk mixed (fun w' => St w _ _ w') [9] [0, 1, 2, 3, 4, 5, 6, 7, 8, 9] (by kernel_rfl) hS.drew ?_
  have hS := hS.drew
  have hkc : w.cell? ⟨g, off + i * 8 * 4 + ((p.length : Int) - 1).toNat * 4 + 0, none⟩ = some (Str (p[p.length - 1]'(by omega)).k) := by
   obtain ⟨g', o', h1, hx⟩ := ent_at (hpa (St.start w)) (show p.length - 1 < p.length by omega)
   simp only [Option.some.injEq, Addr.mk.injEq, and_true] at h1
   obtain ⟨rfl, rfl⟩ := h1
   rw [show ((p.length : Int) - 1).toNat = p.length - 1 by omega]
   exact hx 0 _ rfl
  generalize (p[p.length - 1]'(by omega)).k = k at hkc hkl hlk hid1
  have htl : (textB k).length ≤ 5000 := by
   have := numB_len' (n := k.length) (by omega)
   unfold textB; rw [kAa]; omega
  refine jr ⟨?_⟩
  refine hS.ldOldC (by simp) hkc ?_
  refine jr ⟨?_⟩
  refine hS.al ?_
  intro b52 w16 _ hS
  refine Chk.mk (hS.sub (kAb _ _)) ?_
  refine Cl.mono (Text_spec hI (hS.part (L := Li)) (ss := [k]) (hS.arr (b := b52) (nodup_chunk hS)) (by simp [sumLen]; omega)) ?_
  rintro _ w17 ⟨Li2, hI, hS'⟩
  have hS := (hS.call (L := Li) hS').sub (kAb _ _)
  rw [show textsB [k] = textB k by simp [textsB]] at hI
  repeat (first | refine SemM.run tblOk ?_ | ((first | refine jA ?_ ?_ | refine jB ?_ ?_ | refine jC ?_ ?_ | refine jD ?_ ?_); omega) | refine jE rfl ?_ | refine jF (by first | omega | exact ptr_ok tblOk rfl rfl | decide) ?_ | (refine jG ?_; first | with_reducible (first | apply jH | apply jI | apply jJ | apply jK | apply jL) | refine jM (by omega) ?_ | refine jN (by omega) ?_ | with_reducible refine jM rfl ?_ | refine jM (by first | assumption | decide) ?_ | refine jN (by first | assumption | decide) ?_) | refine jO (fun _ => by kernel_rfl) ?_ | refine hS.ld rfl ?_ | refine hS.ldn rfl ?_ | (refine hS.st rfl rfl ?_; intro _ hS))
  refine hS.al ?_
  intro b57 w18 _ hS
  repeat (first | refine SemM.run tblOk ?_ | ((first | refine jA ?_ ?_ | refine jB ?_ ?_ | refine jC ?_ ?_ | refine jD ?_ ?_); omega) | refine jE rfl ?_ | refine jF (by first | omega | exact ptr_ok tblOk rfl rfl | decide) ?_ | (refine jG ?_; first | with_reducible (first | apply jH | apply jI | apply jJ | apply jK | apply jL) | refine jM (by omega) ?_ | refine jN (by omega) ?_ | with_reducible refine jM rfl ?_ | refine jM (by first | assumption | decide) ?_ | refine jN (by first | assumption | decide) ?_) | refine jO (fun _ => by kernel_rfl) ?_ | refine hS.ld rfl ?_ | refine hS.ldn rfl ?_ | (refine hS.st rfl rfl ?_; intro _ hS))
  refine Cl.mono (Num_spec hI (hS.part (L := Li2)) (ns := [xa]) (hS.arr (b := b57) (nodup_chunk hS)) (by intro m hm; simp only [kAy] at hm; subst hm; omega) (by simp) (by simp; omega)) ?_
  rintro _ w19 ⟨Li3, hI, hS'⟩
  have hS := (hS.call (L := Li2) hS').sub (kAb _ _)
  rw [show ([xa].map numB).flatten = numB xa by simp] at hI
  repeat (first | refine SemM.run tblOk ?_ | ((first | refine jA ?_ ?_ | refine jB ?_ ?_ | refine jC ?_ ?_ | refine jD ?_ ?_); omega) | refine jE rfl ?_ | refine jF (by first | omega | exact ptr_ok tblOk rfl rfl | decide) ?_ | (refine jG ?_; first | with_reducible (first | apply jH | apply jI | apply jJ | apply jK | apply jL) | refine jM (by omega) ?_ | refine jN (by omega) ?_ | with_reducible refine jM rfl ?_ | refine jM (by first | assumption | decide) ?_ | refine jN (by first | assumption | decide) ?_) | refine jO (fun _ => by kernel_rfl) ?_ | refine hS.ld rfl ?_ | refine hS.ldn rfl ?_ | (refine hS.st rfl rfl ?_; intro _ hS))
  have e1 : ((P.take (i + 1)).map blockB).map Str = ((P.take i).map blockB).map Str ++ [Str bb] := by rw [hsucc]; simp [hbb]
  have e2 : idxP (P.take (i + 1)) P.length = (xb ++ (textB k ++ numB xa), xa + 8 + bb.length) := by
   rw [hsucc, idxP_snoc, hix]
   unfold idxF
   rw [hlk, hbb]
  have e3 : (xa : Int) + (8 + (bb.length : Int)) = ((xa + 8 + bb.length : Nat) : Int) := by omega
  rw [e3] at hS
  refine ⟨hS.mem (b := lp), hK _ ⟨by omega, a9, c9, L9, Li3, by rw [e1]; exact hV, by rw [e2]; simpa using hI, by rw [e2]; exact hS.put (b := lp) (lo .ready none)⟩⟩
 ·rintro _ w12 (⟨i, hi, hile, a8, c8, L8, Li, hV, hI, hS⟩ | hf)
  rotate_left
  ·exact hf.elim
  obtain rfl : i = P.length := by omega
  refine ⟨.ready, none, hS.mem (b := lp), by decide, ?_⟩
  have hS := hS.put (b := lp) (lo .exhausted none)
  generalize w12.putObj lp (lo .exhausted none) = w13 at hS ⊢
  have hS := hS
  have hid := hidx P.length
  have hsl := ht.sum
  have hpc := ht.pcnt
  have hok := ht.ok
  have htb : tableP l = P.map blockB ++ [(idxP P P.length).1, bloomB (namesE l), magicB ++ (numB (idxP P P.length).2 ++ numB l.length)] := by
   unfold tableP idxE; rw [hP]
  have hnl := namesE_len l
  have hnz := namesE_sz2 ht
  rw [kAr] at hV hI hS hid
  generalize hix : idxP P P.length = ix at hI hS hid htb
  obtain ⟨xb, xa⟩ := ix
  simp only at hI hS hid htb
  repeat (first | refine SemM.run tblOk ?_ | ((first | refine jA ?_ ?_ | refine jB ?_ ?_ | refine jC ?_ ?_ | refine jD ?_ ?_); omega) | refine jE rfl ?_ | refine jF (by first | omega | exact ptr_ok tblOk rfl rfl | decide) ?_ | (refine jG ?_; first | with_reducible (first | apply jH | apply jI | apply jJ | apply jK | apply jL) | refine jM (by omega) ?_ | refine jN (by omega) ?_ | with_reducible refine jM rfl ?_ | refine jM (by first | assumption | decide) ?_ | refine jN (by first | assumption | decide) ?_) | refine jO (fun _ => by kernel_rfl) ?_ | refine hS.ld rfl ?_ | refine hS.ldn rfl ?_ | (refine hS.st rfl rfl ?_; intro _ hS))
  refine hS.al ?_
  intro b70 w14 _ hS
  repeat (first | refine SemM.run tblOk ?_ | ((first | refine jA ?_ ?_ | refine jB ?_ ?_ | refine jC ?_ ?_ | refine jD ?_ ?_); omega) | refine jE rfl ?_ | refine jF (by first | omega | exact ptr_ok tblOk rfl rfl | decide) ?_ | (refine jG ?_; first | with_reducible (first | apply jH | apply jI | apply jJ | apply jK | apply jL) | refine jM (by omega) ?_ | refine jN (by omega) ?_ | with_reducible refine jM rfl ?_ | refine jM (by first | assumption | decide) ?_ | refine jN (by first | assumption | decide) ?_) | refine jO (fun _ => by kernel_rfl) ?_ | refine hS.ld rfl ?_ | refine hS.ldn rfl ?_ | (refine hS.st rfl rfl ?_; intro _ hS))
  refine Cl.mono (Num_spec hF (hS.part (L := Lf)) (ns := [xa, l.length]) (hS.arr (b := b70) (nodup_chunk hS)) (by intro m hm; simp only [kAf, List.not_mem_nil, or_false] at hm; omega) (by simp) (by simp)) ?_
  rintro _ w15 ⟨Lf2, hF, hS'⟩
  have hS := (hS.call (L := Lf) hS').sub (kAb _ _)
  rw [show [] ++ ([xa, l.length].map numB).flatten = numB xa ++ numB l.length by simp] at hF
  repeat (first | refine SemM.run tblOk ?_ | ((first | refine jA ?_ ?_ | refine jB ?_ ?_ | refine jC ?_ ?_ | refine jD ?_ ?_); omega) | refine jE rfl ?_ | refine jF (by first | omega | exact ptr_ok tblOk rfl rfl | decide) ?_ | (refine jG ?_; first | with_reducible (first | apply jH | apply jI | apply jJ | apply jK | apply jL) | refine jM (by omega) ?_ | refine jN (by omega) ?_ | with_reducible refine jM rfl ?_ | refine jM (by first | assumption | decide) ?_ | refine jN (by first | assumption | decide) ?_) | refine jO (fun _ => by kernel_rfl) ?_ | refine hS.ld rfl ?_ | refine hS.ldn rfl ?_ | (refine hS.st rfl rfl ?_; intro _ hS))
  have hsub : ∀ (L R : Heap), List.Sublist ((lp, lo .exhausted none) :: (D, Obj.deferred (some [])) :: (b3, .cells ⟨[.int .i64 8]⟩ T_int (0, 0)) :: (b2, .cells ⟨[.slice a l.length c]⟩ T_Sl_api_Entry (0, 0)) :: (b9, .cells ⟨[.int .i64 xa]⟩ T_int (0, 0)) ::
    (b8, .cells ⟨[.slice a8 P.length c8]⟩ T_Sl_string (0, 0)) :: R) ((lp, lo .exhausted none) :: (D, Obj.deferred (some [])) :: (b3, .cells ⟨[.int .i64 8]⟩ T_int (0, 0)) :: (b2, .cells ⟨[.slice a l.length c]⟩ T_Sl_api_Entry (0, 0)) :: (b9, .cells ⟨[.int .i64 xa]⟩ T_int (0, 0)) ::
    (b8, .cells ⟨[.slice a8 P.length c8]⟩ T_Sl_string (0, 0)) :: (L ++ R)) := fun L R => .cons_cons _ (.cons_cons _ (.cons_cons _ (.cons_cons _ (.cons_cons _ (.cons_cons _ (kAj _ _))))))
  refine SemM.draw tblOk mixed (fun w' => St w _ _ w') [11] [0, 1, 3, 6, 2, 4, 5, 7, 8, 9, 10, 11] (by kernel_rfl) (hS.drew.sub (hsub L8 _)) ?_
  have hS0 := hS.drew
  have hS := hS0.sub (hsub L8 _)
  refine jr ⟨?_⟩
  have hS := hS0
  refine Cl.mono (Bytes_spec hI (hS.part (L := Li))) ?_
  rintro _ w16 ⟨rfl, hS'⟩
  have hS := hS.call (L := Li) hS'
  refine Chk.mk (hS.sub (hsub L8 _)) ?_
  refine jr ⟨?_⟩
  refine Cl.mono (names_spec (hS.nil.arrOld ha) (by omega)) ?_
  rintro _ w17 ⟨an, cn, Ln, rfl, hVn, hS'⟩
  have hS := hS.callNew hS'
  refine Chk.mk (hS.sub ((hsub L8 _).trans (kAj _ _))) ?_
  refine jr ⟨?_⟩
  refine Cl.mono (Build_spec (keys := namesE l) (hVn.arr hS (by simp)) (by omega) (fun k hk => by have := hnz k hk; omega)) ?_
  rintro _ w18 ⟨rfl, hS'⟩
  have hS := hS.call0 hS'
  have hS := hS.sub (kAj _ _)
  refine Chk.mk (hS.sub (hsub L8 _)) ?_
  have hbl := bloomB_len (namesE l) (by omega)
  generalize bloomB (namesE l) = bl at hbl htb ⊢
  refine jr ⟨?_⟩
  refine Cl.mono (Bytes_spec hF (hS.part (L := Lf2))) ?_
  rintro _ w19 ⟨rfl, hS'⟩
  have hS := hS.call (L := Lf2) hS'
  refine Chk.mk (hS.sub (hsub L8 _)) ?_
  have hnx := numB_len' (n := xa) (by omega)
  have hny := numB_len' (n := l.length) (by omega)
  generalize hft : numB xa ++ numB l.length = ft at htb ⊢
  have hfl : ft.length ≤ 20 := by rw [← hft, kAa]; omega
  refine jr ⟨?_⟩
  refine Chk.mk (by simp; omega) ?_
  refine jr ⟨?_⟩
  refine hS.al ?_
  intro b81 w20 _ hS
  refine Chk.mk (hS.sub ((hsub L8 _).trans (kAb _ _))) ?_
  refine jr ⟨?_⟩
  refine St.app (sz := 1) (m := 3) tblOk rfl rfl rfl rfl hS hV (news := [Str xb, Str bl, Str (magicB ++ ft)]) rfl (by have := hS.arr (b := b81) (T' := []) (by simp); exact this) rfl (by show (_ + _) * 16 ≤ _; omega) (by omega) ?_
  intro a9 c9 L9 w21 hV hS
  have hS := hS.sub (kAb _ _)
  refine Chk.mk (hS.sub (hsub L9 _)) ?_
  refine jr ⟨?_⟩
  repeat (first | refine SemM.run tblOk ?_ | ((first | refine jA ?_ ?_ | refine jB ?_ ?_ | refine jC ?_ ?_ | refine jD ?_ ?_); omega) | refine jE rfl ?_ | refine jF (by first | omega | exact ptr_ok tblOk rfl rfl | decide) ?_ | (refine jG ?_; first | with_reducible (first | apply jH | apply jI | apply jJ | apply jK | apply jL) | refine jM (by omega) ?_ | refine jN (by omega) ?_ | with_reducible refine jM rfl ?_ | refine jM (by first | assumption | decide) ?_ | refine jN (by first | assumption | decide) ?_) | refine jO (fun _ => by kernel_rfl) ?_ | refine hS.ld rfl ?_ | refine hS.ldn rfl ?_ | (refine hS.st rfl rfl ?_; intro _ hS))
  have hlen3 : P.length + 3 = (tableP l).length := by rw [htb]; simp
  have htb2 : (P.map blockB).map Str ++ [Str xb, Str bl, Str (magicB ++ ft)] = (tableP l).map Str := by rw [htb]; simp
  rw [htb2] at hV
  rw [hlen3] at hV hS ⊢
  refine Cl.mono (Seal_spec (ps := tableP l) (by omega) (hV.arr hS (by simp))) ?_
  rintro _ w22 ⟨rfl, hS'⟩
  have hS := hS.call0 hS'
  rw [hok, if_pos rfl]
  repeat (first | refine SemM.run tblOk ?_ | ((first | refine jA ?_ ?_ | refine jB ?_ ?_ | refine jC ?_ ?_ | refine jD ?_ ?_); omega) | refine jE rfl ?_ | refine jF (by first | omega | exact ptr_ok tblOk rfl rfl | decide) ?_ | (refine jG ?_; first | with_reducible (first | apply jH | apply jI | apply jJ | apply jK | apply jL) | refine jM (by omega) ?_ | refine jN (by omega) ?_ | with_reducible refine jM rfl ?_ | refine jM (by first | assumption | decide) ?_ | refine jN (by first | assumption | decide) ?_) | refine jO (fun _ => by kernel_rfl) ?_ | refine hS.ld rfl ?_ | refine hS.ldn rfl ?_ | (refine hS.st rfl rfl ?_; intro _ hS))
  have hS := hS.put (b := D) (.deferred none)
  refine ⟨(by assumption : St w [] _ _).mem (b := D), rfl, hS.nil⟩
structure TabR (w : World) (tb : Nat) (l : List EntM) (a : Option Addr) (c nb : Nat) : Prop where
 cells : Arr w [] (some ⟨tb, 0, none⟩) [.int .i64 l.length, .int .i64 nb, .slice a l.length c, Str (bloomB (namesE l))]
 ents : Arr w [] a (l.flatMap entC)
 cap : l.length ≤ c
 addr : a = none ∨ ∃ g, a = some ⟨g, 0, none⟩
theorem TabR.old {w w' : World} {H : Heap} (hS : St w [] H w') {tb : Nat} {l : List EntM} {a : Option Addr} {c nb : Nat} (h : TabR w tb l a c nb) : TabR w' tb l a c nb := ⟨hS.arrOld h.cells, hS.arrOld h.ents, h.cap, h.addr⟩
theorem toE_get {k : Bytes} {s : Int} {l : List EntM} (hr : Rise l) {i : Nat} (h : i < l.length) : eltP l[i] k s = decide (i < (toE k s l).length) := by
 have e := to_from k s l
 by_cases hi : i < (toE k s l).length
 ·rw [decide_eq_true hi]
  have : l[i] = (toE k s l)[i] := by
   have h2 : i < (toE k s l ++ fromE k s l).length := by rw [e]; exact h
   have h3 : (toE k s l ++ fromE k s l)[i] = l[i] := by congr 1
   rw [← h3, List.getElem_append_left hi]
  rw [this]
  exact toE_lt k s l _ (kAx hi)
 ·rw [decide_eq_false hi]
  have h2 : i < (toE k s l ++ fromE k s l).length := by rw [e]; exact h
  have h3 : (toE k s l ++ fromE k s l)[i] = l[i] := by congr 1
  refine fromE_ge hr _ ?_
  rw [← h3, List.getElem_append_right (by omega)]
  exact kAx _
theorem toE_le (k : Bytes) (s : Int) (l : List EntM) : (toE k s l).length ≤ l.length := by
 have := congrArg List.length (to_from k s l)
 rw [kAa] at this; omega
def placeF (b3 b4 b5 : Nat) : Value := .func (.func f_table_Table_place_1) ⟨[]⟩ ⟨[ptr b3, ptr b4, ptr b5]⟩
set_option maxHeartbeats 4000000 in
theorem placeF_spec {w : World} {tb b3 b4 b5 : Nat} {l : List EntM} {a : Option Addr} {c nb : Nat} {k : Bytes} {s : Int} (hT : TabR w tb l a c nb) (h3 : w.cell? ⟨b3, 0, none⟩ = some (ptr tb)) (h4 : w.cell? ⟨b4, 0, none⟩ = some (Str k)) (h5 : w.cell? ⟨b5, 0, none⟩ = some (.int .i64 s)) {i : Nat} (hi : i < l.length) (hl : l.length ≤ 1099511627776) :
  Cl Tryz.prog f_table_Table_place_1 [.int .i64 i, ptr b3, ptr b4, ptr b5] w fun v w' => v = .bool (!eltP l[i] k s) ∧ St w [] [] w' := by
 have hS := St.start w
 obtain ⟨g, off, rfl, hx⟩ := ent_at hT.ents hi
 have hc2 := hT.cells 2 _ rfl
 obtain ⟨g2, o2, e2, -, hc2⟩ := hc2
 simp only [Option.some.injEq, Addr.mk.injEq, and_true] at e2
 obtain ⟨rfl, rfl⟩ := e2
 generalize l[i] = u at hx
 refine en_table_Table_place_1 rfl ?_
 unfold eltP
 refine jq ⟨?_⟩
 refine hS.ldOld (by simp) h3 ?_
 refine jq ⟨?_⟩
 refine hS.ldOld (by simp) (by simpa using hc2) ?_
 refine jq ⟨?_⟩
 refine ldnW (cs := [Str u.k, .int .i64 u.s, .bool u.d, Str u.v]) rfl (fun j x hj => hS.oldCell (by simp) (by have := hx j x hj; rw [show off + ((i : Int)).toNat * 4 + j = off + i * 4 + j by omega]; exact this)) ?_
 refine jq ⟨?_⟩
 refine hS.al ?_
 intro b6 w2 _ hS
 (repeat (refine jt ⟨?_⟩; refine hS.st rfl rfl ?_; intro _ hS)); refine jt ⟨?_⟩
 refine hS.ldOld (by simp) h4 ?_
 cases hB : (Op.bytesLess u.k k || decide (u.k = k)) with
 |false =>
  have h6 : (Op.bytesLess u.k k || decide (u.k = k) && decide (s < u.s)) = false := by
   rw [Bool.or_eq_false_iff] at hB ⊢
   exact ⟨hB.1, by rw [hB.2]; rfl⟩
  rw [h6]
  (repeat (refine jt ⟨?_⟩; refine hS.st rfl rfl ?_; intro _ hS)); refine jt ⟨?_⟩
  repeat (refine BrG.eqf hB ?_; (repeat (refine jt ⟨?_⟩; refine hS.st rfl rfl ?_; intro _ hS)); refine jt ⟨?_⟩)
  exact ⟨rfl, hS.nil⟩
 |true =>
  (repeat (refine jt ⟨?_⟩; refine hS.st rfl rfl ?_; intro _ hS)); refine jt ⟨?_⟩
  repeat (refine BrG.eqt hB ?_; (repeat (refine jt ⟨?_⟩; refine hS.st rfl rfl ?_; intro _ hS)); refine jt ⟨?_⟩)
  refine hS.ldOld (by simp) h4 ?_
  by_cases hk : u.k = k
  ·(repeat (refine jt ⟨?_⟩; refine hS.st rfl rfl ?_; intro _ hS)); refine jt ⟨?_⟩
   refine hS.ldOld (by simp) h5 ?_
   (repeat (refine jt ⟨?_⟩; refine hS.st rfl rfl ?_; intro _ hS)); refine jt ⟨?_⟩
   have h7 : Op.bytesLess u.k k = false := by rw [hk]; exact bless_irrefl k
   refine ⟨?_, hS.nil⟩
   rw [h7, decide_eq_true hk]
   by_cases hs : u.s ≤ s
   ·simp [hs, Int.not_lt.2 hs]
   ·simp [hs, Int.not_le.1 hs]
  ·(repeat (refine jt ⟨?_⟩; refine hS.st rfl rfl ?_; intro _ hS)); refine jt ⟨?_⟩
   have h7 : Op.bytesLess u.k k = true := by simpa [hk] using hB
   exact ⟨by simp [h7], hS.nil⟩
set_option maxHeartbeats 4000000 in
theorem Search_spec {w : World} {tb b3 b4 b5 : Nat} {l : List EntM} {a : Option Addr} {c nb : Nat} {k : Bytes} {s : Int} (hT : TabR w tb l a c nb) (hr : Rise l) (h3 : w.cell? ⟨b3, 0, none⟩ = some (ptr tb)) (h4 : w.cell? ⟨b4, 0, none⟩ = some (Str k)) (h5 : w.cell? ⟨b5, 0, none⟩ = some (.int .i64 s)) (hl : l.length ≤ 1099511627776) :
  Cl Tryz.prog f_sort_Search [.int .i64 l.length, placeF b3 b4 b5] w fun v w' => v = .int .i64 (toE k s l).length ∧ St w [] [] w' := by
 have hS := St.start w
 have hle := toE_le k s l
 refine en_sort_Search rfl ?_
 refine jq ⟨?_⟩
 refine SemW.loop (fun i : Nat × Nat => [(1, placeF b3 b4 b5), (5, .int .i64 i.1), (6, .int .i64 i.2)])
  (fun i w' => (i.1 ≤ (toE k s l).length ∧ (toE k s l).length ≤ i.2 ∧ i.2 ≤ l.length) ∧ St w [] [] w') (fun i => i.2 - i.1) (0, l.length)
  ⟨rfl, rfl, rfl, trivial⟩ ⟨⟨kAg _, hle, kAd _⟩, hS⟩ ?_
 clear hS
 rintro ⟨i, j⟩ w1 ⟨⟨h1, h2, h6⟩, hS⟩
 simp only at h1 h2 h6 hS ⊢
 by_cases hij : i < j
 ·have hm : (i + j) / 2 < l.length := by omega
  have hg := toE_get (k := k) (s := s) hr hm
  have hf := fun w' (hS' : St w [] [] w') => placeF_spec (w := w') (i := (i + j) / 2) (hT.old hS') (hS'.oldCell (by simp) h3) (hS'.oldCell (by simp) h4) (hS'.oldCell (by simp) h5) hm hl
  rw [hg] at hf
  have hdv : ((i : Int) + (j : Int)).fdiv (2 ^ (min (1 : Int).toNat IntKind.u64.bits)) = (((i + j) / 2 : Nat) : Int) := by
   rw [show (i : Int) + (j : Int) = ((i + j : Nat) : Int) by simp, show min (1 : Int).toNat IntKind.u64.bits = 1 from rfl, fdivP]
  unfold placeF
  refine jq ⟨?_⟩
  rw [hdv]
  generalize hq : (i + j) / 2 = q at hf hm
  refine jq ⟨?_⟩
  refine (hf _ hS).mono ?_
  rintro _ w2 ⟨rfl, hS'⟩
  have hS := hS.call0 hS'
  by_cases hqm : q < (toE k s l).length
  ·refine jq ⟨?_⟩
   exact ⟨(q + 1, j), ⟨rfl, rfl, rfl, trivial⟩, ⟨⟨hqm, h2, h6⟩, hS⟩, by simp only; omega⟩
  ·refine jq ⟨?_⟩
   exact ⟨(i, q), ⟨rfl, rfl, rfl, trivial⟩, ⟨⟨h1, by simp only; omega, by simp only; omega⟩, hS⟩, by simp only; omega⟩
 ·refine jq ⟨?_⟩
  exact ⟨by rw [show i = (toE k s l).length by omega], hS⟩
theorem May_T {w : World} {tb : Nat} {l : List EntM} {a : Option Addr} {c nb : Nat} {k : Bytes} (hT : TabR w tb l a c nb) (hk : k.length ≤ 1099511627776) (hb : (bloomB (namesE l)).length ≤ 1099511627776) :
  Cl Tryz.prog f_table_Table_May [ptr tb, Str k] w fun v w' => v = .bool (mayB (bloomB (namesE l)) k) ∧ St w [] [] w' := by
 have hS := St.start w
 obtain ⟨g2, o2, e2, -, hc2⟩ := hT.cells 3 _ rfl
 simp only [Option.some.injEq, Addr.mk.injEq, and_true] at e2
 obtain ⟨rfl, rfl⟩ := e2
 refine en_table_Table_May rfl ?_
 refine jq ⟨?_⟩
 refine hS.ldOld (by simp) (by simpa using hc2) ?_
 refine jq ⟨?_⟩
 refine (May_spec _ k hb hk _).mono ?_
 rintro _ w1 ⟨rfl, hS'⟩
 have hS := hS.call0 hS'
 refine jq ⟨?_⟩
 exact ⟨rfl, hS⟩
set_option maxHeartbeats 2000000 in
theorem place_spec {w : World} {tb : Nat} {l : List EntM} {a : Option Addr} {c nb : Nat} {k : Bytes} {s : Int} (hT : TabR w tb l a c nb) (hr : Rise l) (hl : l.length ≤ 1099511627776) :
  Cl Tryz.prog f_table_Table_place [ptr tb, Str k, .int .i64 s] w fun v w' => v = .int .i64 (toE k s l).length ∧ St w [] [] w' := by
 have hS := St.start w
 obtain ⟨g2, o2, e2, -, hc2⟩ := hT.cells 2 _ rfl
 simp only [Option.some.injEq, Addr.mk.injEq, and_true] at e2
 obtain ⟨rfl, rfl⟩ := e2
 refine en_table_Table_place rfl ?_
 refine jq ⟨?_⟩
 refine hS.al ?_
 intro b3 w1 _ hS
 refine jq ⟨?_⟩
 refine hS.al ?_
 intro b4 w2 _ hS
 refine jq ⟨?_⟩
 refine hS.al ?_
 intro b5 w3 _ hS
 (repeat (refine jt ⟨?_⟩; refine hS.st rfl rfl ?_; intro _ hS)); refine jt ⟨?_⟩
 refine hS.ldOld (by simp) (by simpa using hc2) ?_
 refine jq ⟨?_⟩
 refine RunG.of rfl ?_
 refine jq ⟨?_⟩
 refine (Search_spec (b3 := b3) (b4 := b4) (b5 := b5) (w := w3) ⟨hS.arrOld hT.cells, hS.arrOld hT.ents, hT.cap, hT.addr⟩ hr (hS.cell (b := b3) rfl) (hS.cell (b := b4) rfl) (hS.cell (b := b5) rfl) hl).mono ?_
 rintro _ w4 ⟨rfl, hS'⟩
 have hS := hS.call0 hS'
 refine jq ⟨?_⟩
 exact ⟨rfl, hS.nil⟩
def nodesA : List NodeM → List NodeM → Heap
 |[], _ => []
 |x :: A, R => (x.b, .cells ⟨nodeC x (A ++ R)⟩ T_mem_node (0, 0)) :: nodesA A R
theorem nodesH_app : ∀ (A R : List NodeM), nodesH (A ++ R) = nodesA A R ++ nodesH R
 |[], _ => rfl
 |x :: A, R => by
  show (x.b, Obj.cells ⟨nodeC x (A ++ R)⟩ T_mem_node (0, 0)) :: nodesH (A ++ R) = _
  rw [nodesH_app A R]; rfl
theorem nodesA_app : ∀ (A B R : List NodeM), nodesA (A ++ B) R = nodesA A (B ++ R) ++ nodesA B R
 |[], _, _ => rfl
 |x :: A, B, R => by
  show (x.b, Obj.cells ⟨nodeC x (A ++ B ++ R)⟩ T_mem_node (0, 0)) :: nodesA (A ++ B) R = _
  rw [nodesA_app A B R, kAc]; rfl
theorem cells8_congr {f g : Nat → Value} (h : ∀ l, l < 8 → f l = g l) : cells8 f = cells8 g := by
 unfold cells8
 rw [h 0 (by omega), h 1 (by omega), h 2 (by omega), h 3 (by omega), h 4 (by omega), h 5 (by omega), h 6 (by omega), h 7 (by omega)]
theorem nodeC_congr {x : NodeM} {R S : List NodeM} (h : ∀ l, l < 8 → cellN x.h R l = cellN x.h S l) : nodeC x R = nodeC x S := by
 unfold nodeC; rw [cells8_congr h]
theorem nodesA_congr : ∀ {A R S : List NodeM}, (∀ P x Q, A = P ++ x :: Q → ∀ l, l < 8 → cellN x.h (Q ++ R) l = cellN x.h (Q ++ S) l) → nodesA A R = nodesA A S
 |[], _, _, _ => rfl
 |x :: A, R, S, h => by
  unfold nodesA
  rw [nodeC_congr (h [] x A rfl), nodesA_congr fun P y Q e => h (x :: P) y Q (by rw [e]; rfl)]
theorem nxt_hit {l : Nat} : ∀ {A : List NodeM}, (∃ y ∈ A, l < y.h) → ∀ R S, nxt l (A ++ R) = nxt l (A ++ S)
 |[], h, _, _ => by obtain ⟨y, hy, _⟩ := h; cases hy
 |x :: A, h, R, S => by
  show (if l < x.h then _ else nxt l (A ++ R)) = (if l < x.h then _ else nxt l (A ++ S))
  by_cases hx : l < x.h
  ·rw [if_pos hx, if_pos hx]
  ·rw [if_neg hx, if_neg hx]
   refine nxt_hit ?_ R S
   obtain ⟨y, hy, h2⟩ := h
   rcases kAf.1 hy with rfl | hy
   ·exact absurd h2 hx
   ·exact ⟨y, hy, h2⟩
theorem nxt_miss {l : Nat} : ∀ {A : List NodeM}, (∀ y ∈ A, ¬ l < y.h) → ∀ R, nxt l (A ++ R) = nxt l R
 |[], _, _ => rfl
 |x :: A, h, R => by
  show (if l < x.h then _ else nxt l (A ++ R)) = _
  rw [if_neg (h x kAt), nxt_miss (fun y hy => h y (kAs _ hy)) R]
theorem nxt_cong (l : Nat) : ∀ (A : List NodeM) {R S : List NodeM}, nxt l R = nxt l S → nxt l (A ++ R) = nxt l (A ++ S)
 |[], _, _, h => h
 |x :: A, R, S, h => by
  show (if l < x.h then _ else nxt l (A ++ R)) = (if l < x.h then _ else nxt l (A ++ S))
  rw [nxt_cong l A h]
def nodeK (b : Nat) (e : EntM) (k : Nat) : NodeM := ⟨b, e, k⟩
theorem nxtK_ne (b : Nat) (e : EntM) {l k : Nat} (h : l ≠ k) (B : List NodeM) : nxt l (nodeK b e (k + 1) :: B) = nxt l (nodeK b e k :: B) := by
 show (if l < k + 1 then _ else _) = (if l < k then _ else _)
 by_cases hl : l < k
 ·rw [if_pos hl, if_pos (by omega)]; rfl
 ·rw [if_neg hl, if_neg (by omega)]
theorem nxtK_self (b : Nat) (e : EntM) (k : Nat) (B : List NodeM) : nxt k (nodeK b e (k + 1) :: B) = ptr b := by
 show (if k < k + 1 then _ else _) = _
 rw [if_pos (by omega)]; rfl
theorem nxtK_old (b : Nat) (e : EntM) (k : Nat) (B : List NodeM) : nxt k (nodeK b e k :: B) = nxt k B := by
 show (if k < k then _ else _) = _
 rw [if_neg (by omega)]
theorem nxtK_zero (b : Nat) (e : EntM) (l : Nat) (B : List NodeM) : nxt l (nodeK b e 0 :: B) = nxt l B := by
 show (if l < 0 then _ else _) = _
 rw [if_neg (by omega)]
theorem cells8_set (f : Nat → Value) (k : Nat) (hk : k < 8) (v : Value) : (cells8 f).set k v = cells8 fun l => if l = k then v else f l := by
 apply List.ext_getElem?
 intro j
 rw [List.getElem?_set]
 by_cases hj : j < 8
 ·rw [cells8_get _ j hj, cells8_get _ j hj]
  by_cases e : k = j
  ·subst e
   rw [if_pos rfl, if_pos (by show k < 8; exact hk), if_pos rfl]
  ·rw [if_neg e, if_neg (fun h => e h.symm)]
 ·rw [if_neg (by omega), List.getElem?_eq_none (by show 8 ≤ j; omega), List.getElem?_eq_none (by show 8 ≤ j; omega)]
theorem nodeK_set (b : Nat) (e : EntM) (k : Nat) (hk : k < 8) (B : List NodeM) : (nodeC (nodeK b e k) B).set (4 + k) (nxt k B) = nodeC (nodeK b e (k + 1)) B := by
 unfold nodeC
 have hl : (entC (nodeK b e k).e).length = 4 := rfl
 rw [kCr _ _ (by rw [hl]; omega), hl, show 4 + k - 4 = k by omega, cells8_set _ _ hk]
 congr 1
 refine cells8_congr fun l _ => ?_
 unfold cellN
 show (if l = k then _ else if l < k then _ else _) = (if l < k + 1 then _ else _)
 by_cases e1 : l = k
 ·subst e1; rw [if_pos rfl, if_pos (by omega)]
 ·rw [if_neg e1]
  by_cases h : l < k
  ·rw [if_pos h, if_pos (by omega)]
  ·rw [if_neg h, if_neg (by omega)]
theorem prev_set {y : NodeM} {A2 : List NodeM} {k : Nat} (hk : k < 8) (hy : k < y.h) (hn : ∀ z ∈ A2, ¬ k < z.h) (b : Nat) (e : EntM) (B : List NodeM) :
  (nodeC y (A2 ++ nodeK b e k :: B)).set (4 + k) (ptr b) = nodeC y (A2 ++ nodeK b e (k + 1) :: B) := by
 unfold nodeC
 have hl : (entC y.e).length = 4 := rfl
 rw [kCr _ _ (by rw [hl]; omega), hl, show 4 + k - 4 = k by omega, cells8_set _ _ hk]
 congr 1
 refine cells8_congr fun l _ => ?_
 unfold cellN
 by_cases e1 : l = k
 ·subst e1; rw [if_pos rfl, if_pos hy, nxt_miss hn, nxtK_self]
 ·rw [if_neg e1, nxt_cong l A2 (nxtK_ne b e e1 B)]
theorem head_set {A : List NodeM} {k : Nat} (hk : k < 8) (hn : ∀ z ∈ A, ¬ k < z.h) (b : Nat) (e : EntM) (B : List NodeM) (n bytes : Int) (ha : Option Addr) (hn' hc : Nat) (turn : Int) :
  (memC n bytes (A ++ nodeK b e k :: B) ha hn' hc turn).set (2 + (4 + k)) (ptr b) = memC n bytes (A ++ nodeK b e (k + 1) :: B) ha hn' hc turn := by
 unfold memC
 rw [kAc, kAc, kCr _ _ (by simp; omega)]
 rw [List.set_append_left _ _ (by simp [cells8]; omega)]
 congr 1
 congr 1
 rw [show 2 + (4 + k) - _ = k by simp; omega, cells8_set _ _ hk]
 refine cells8_congr fun l _ => ?_
 by_cases e1 : l = k
 ·subst e1; rw [if_pos rfl, nxt_miss hn, nxtK_self]
 ·rw [if_neg e1, nxt_cong l A (nxtK_ne b e e1 B)]
theorem mem_same {A : List NodeM} {k : Nat} (h : ∃ y ∈ A, k < y.h) (b : Nat) (e : EntM) (B : List NodeM) (n bytes : Int) (ha : Option Addr) (hn hc : Nat) (turn : Int) :
  memC n bytes (A ++ nodeK b e k :: B) ha hn hc turn = memC n bytes (A ++ nodeK b e (k + 1) :: B) ha hn hc turn := by
 unfold memC
 congr 2
 refine cells8_congr fun l _ => ?_
 by_cases e1 : l = k
 ·subst e1; exact nxt_hit h _ _
 ·rw [nxt_cong l A (nxtK_ne b e e1 B)]
theorem nodesK_same {A : List NodeM} {k : Nat} (b : Nat) (e : EntM) (B : List NodeM) (T : List NodeM) (h : (∀ z ∈ A, ¬ k < z.h) ∨ ∃ y ∈ T, k < y.h) :
  nodesA A (T ++ nodeK b e k :: B) = nodesA A (T ++ nodeK b e (k + 1) :: B) := by
 refine nodesA_congr fun P x Q hA l _ => ?_
 unfold cellN
 by_cases e1 : l = k
 ·subst e1
  rcases h with h | h
  ·rw [if_neg (h x (by rw [hA]; simp)), if_neg (h x (by rw [hA]; simp))]
  ·rw [← kAc, ← kAc, nxt_hit (A := Q ++ T) (by obtain ⟨y, hy, h2⟩ := h; exact ⟨y, kBp _ hy, h2⟩)]
 ·rw [nxt_cong l Q (nxt_cong l T (nxtK_ne b e e1 B))]
theorem nodesK_none {A : List NodeM} {k : Nat} (b : Nat) (e : EntM) (B : List NodeM) (h : ∀ z ∈ A, ¬ k < z.h) : nodesA A (nodeK b e k :: B) = nodesA A (nodeK b e (k + 1) :: B) := nodesK_same b e B [] (.inl h)
theorem cut_last (k : Nat) : ∀ (A : List NodeM), (∀ z ∈ A, ¬ k < z.h) ∨ ∃ A0 y A2, A = A0 ++ y :: A2 ∧ k < y.h ∧ ∀ z ∈ A2, ¬ k < z.h
 |[] => .inl (by simp)
 |x :: A => by
  rcases cut_last k A with h | ⟨A0, y, A2, h1, h2, h3⟩
  ·by_cases hx : k < x.h
   ·exact .inr ⟨[], x, A, rfl, hx, h⟩
   ·left
    intro z hz
    rcases kAf.1 hz with rfl | hz
    ·exact hx
    ·exact h z hz
  ·exact .inr ⟨x :: A0, y, A2, by rw [h1]; rfl, h2, h3⟩
theorem nxt_be (l : Nat) (A B : List NodeM) (z : NodeM) (e : EntM) : nxt l (A ++ z :: B) = nxt l (A ++ { z with e := e } :: B) := nxt_cong l A rfl
theorem nodesA_be (A B : List NodeM) (z : NodeM) (e : EntM) : nodesA A (z :: B) = nodesA A ({ z with e := e } :: B) := by
 refine nodesA_congr fun P x Q _ l _ => ?_
 unfold cellN
 rw [nxt_be l Q B z e]
theorem memC_be (n bytes : Int) (A B : List NodeM) (z : NodeM) (e : EntM) (ha : Option Addr) (hn hc : Nat) (turn : Int) : memC n bytes (A ++ z :: B) ha hn hc turn = memC n bytes (A ++ { z with e := e } :: B) ha hn hc turn := by
 unfold memC
 congr 2
 exact cells8_congr fun l _ => nxt_be l A B z e
theorem outs8_get (b : Nat) (A : List NodeM) (l : Nat) (hl : l < 8) : (outs8 b 0 A)[l]? = some (lastP (headV b) l A) := by
 unfold outs8
 rw [cells8_get _ l hl, if_pos (kAg _)]
theorem memC_get (n bytes : Int) (ns : List NodeM) (ha : Option Addr) (hn hc : Nat) (turn : Int) (k : Nat) (hk : k < 8) : (memC n bytes ns ha hn hc turn)[2 + (4 + k)]? = some (nxt k ns) := by
 unfold memC
 rw [kAc, kBh (by simp; omega), kAz (by simp [cells8]; omega)]
 rw [show 2 + (4 + k) - _ = k by simp; omega]
 exact cells8_get _ k hk
theorem nodeC_get (x : NodeM) (R : List NodeM) (k : Nat) (hk : k < 8) : (nodeC x R)[4 + k]? = some (cellN x.h R k) := by
 unfold nodeC
 rw [kBh (by simp [entC])]
 rw [show 4 + k - (entC x.e).length = k by simp [entC]]
 exact cells8_get _ k hk
theorem nodesA_zero (b : Nat) (e : EntM) (A B : List NodeM) : nodesA A B = nodesA A (nodeK b e 0 :: B) := by
 refine nodesA_congr fun P x Q _ l _ => ?_
 unfold cellN
 rw [nxt_cong l Q (nxtK_zero b e l B).symm]
theorem memC_zero (n bytes : Int) (b : Nat) (e : EntM) (A B : List NodeM) (ha : Option Addr) (hn hc : Nat) (turn : Int) : memC n bytes (A ++ B) ha hn hc turn = memC n bytes (A ++ nodeK b e 0 :: B) ha hn hc turn := by
 unfold memC
 congr 2
 exact cells8_congr fun l _ => nxt_cong l A (nxtK_zero b e l B).symm
theorem nodeC_zero (b : Nat) (e : EntM) (B : List NodeM) : entC e ++ cells8 (fun _ => .pointer none) = nodeC (nodeK b e 0) B := rfl
theorem memC_len (n bytes : Int) (ns : List NodeM) (ha : Option Addr) (hn hc : Nat) (turn : Int) : (memC n bytes ns ha hn hc turn).length = 16 := rfl
theorem nodeC_len (x : NodeM) (R : List NodeM) : (nodeC x R).length = 12 := rfl
theorem nxt_ptr (l : Nat) (B : List NodeM) : ∃ p, nxt l B = .pointer p := by
 rcases nxt_mem l B with h | ⟨_, z, _, _, h⟩
 ·exact ⟨_, h⟩
 ·exact ⟨_, h⟩
theorem All_T {w : World} {tb : Nat} {l : List EntM} {a : Option Addr} {c nb : Nat} (hT : TabR w tb l a c nb) (hl : l.length ≤ 16777216) :
  Cl Tryz.prog f_table_Table_All [ptr tb] w fun v w' => ∃ a' c' L, v = .slice a' l.length c' ∧ Vec T_api_Entry 4 a' l.length c' (l.flatMap entC) L ∧ St w [] L w' := by
 have hS := St.start w
 obtain ⟨g2, o2, e2, -, hc2⟩ := hT.cells 2 _ rfl
 simp only [Option.some.injEq, Addr.mk.injEq, and_true] at e2
 obtain ⟨rfl, rfl⟩ := e2
 refine en_table_Table_All rfl ?_
 refine jq ⟨?_⟩
 refine hS.ldOld (by simp) (by simpa using hc2) ?_
 refine jq ⟨?_⟩
 refine (CloneE_spec (hS.arrOld hT.ents) hl).mono ?_
 rintro _ w1 ⟨a', c', L, rfl, hv, hS'⟩
 have hS := hS.callNew hS'
 rw [kAk] at hS
 refine jq ⟨?_⟩
 exact ⟨a', c', L, rfl, hv, hS⟩
theorem to_drop (k : Bytes) (s : Int) (l : List EntM) : l.drop (toE k s l).length = fromE k s l := by
 conv => lhs; rw [← to_from k s l]
 rw [List.drop_left' (by rw [to_from])]
set_option maxHeartbeats 2000000 in
theorem From_T {w : World} {tb : Nat} {l : List EntM} {a : Option Addr} {c nb : Nat} {k : Bytes} (hT : TabR w tb l a c nb) (hr : Rise l) (hl : l.length ≤ 16777216) :
  Cl Tryz.prog f_table_Table_From [ptr tb, Str k] w fun v w' => ∃ a' c' L, v = .slice a' (fromE k 9223372036854775807 l).length c' ∧ Vec T_api_Entry 4 a' (fromE k 9223372036854775807 l).length c' ((fromE k 9223372036854775807 l).flatMap entC) L ∧ St w [] L w' := by
 have hS := St.start w
 obtain ⟨g2, o2, e2, -, hc2⟩ := hT.cells 2 _ rfl
 simp only [Option.some.injEq, Addr.mk.injEq, and_true] at e2
 obtain ⟨rfl, rfl⟩ := e2
 have hle := toE_le k 9223372036854775807 l
 refine en_table_Table_From rfl ?_
 refine jq ⟨?_⟩
 refine SemW.draw tblOk mixed (fun w' => St w _ _ w') [8, 9] [0, 1, 2, 3, 4, 5, 6, 7, 8, 9] (by kernel_rfl) hS.drew ?_
 have hS := hS.drew
 refine jr ⟨?_⟩
 refine hS.ldOldC (by simp) (by simpa using hc2) ?_
 refine jr ⟨?_⟩
 refine (place_spec (s := 9223372036854775807) ⟨hS.arrOld hT.cells, hS.arrOld hT.ents, hT.cap, hT.addr⟩ hr (by omega)).mono ?_
 rintro _ w1 ⟨rfl, hS'⟩
 have hS := hS.call0 hS'
 refine Chk.mk hS ?_
 have hdr := to_drop k 9223372036854775807 l
 have hlen := congrArg List.length (to_from k 9223372036854775807 l)
 rw [kAa] at hlen
 have hcap := hT.cap
 have hents := hT.ents
 rcases hT.addr with rfl | ⟨g, rfl⟩
 ·have hl0 : l = [] := by
   cases l with
   |nil => rfl
   |cons x l => obtain ⟨g, off, h, -⟩ := hents.get (j := 0) (by rw [entsC_len, kAe]; omega); cases h
  subst hl0
  refine jr ⟨?_⟩
  refine (CloneE_spec (l := []) (Arr.nil _ _ _) (kAg _)).mono ?_
  rintro _ w2 ⟨a', c', L, rfl, hv, hS'⟩
  have hS := hS.callNew hS'
  rw [kAk] at hS
  refine jr ⟨?_⟩
  refine jq ⟨?_⟩
  exact ⟨a', c', L, rfl, hv, hS⟩
 ·have hpart := part_arr (hS.arrOld hents) hcap (p := (toE k 9223372036854775807 l).length) (n := l.length - (toE k 9223372036854775807 l).length) (by omega)
  rw [hdr, kDi (by omega)] at hpart
  generalize (toE k 9223372036854775807 l).length = m at hlen hle hpart
  generalize fromE k 9223372036854775807 l = F at hlen hpart ⊢
  refine jr ⟨?_⟩
  rw [show ((m : Int)).toNat = m by omega, show l.length - m = F.length by omega]
  refine (CloneE_spec (c := c - m) hpart (by omega)).mono ?_
  rintro _ w2 ⟨a', c', L, rfl, hv, hS'⟩
  have hS := hS.callNew hS'
  rw [kAk] at hS
  refine jr ⟨?_⟩
  refine jq ⟨?_⟩
  exact ⟨a', c', L, rfl, hv, hS⟩
theorem may_none {l : List EntM} {k : Bytes} {s : Int} (h : mayB (bloomB (namesE l)) k = false) : getE l k s = none := by
 unfold getE
 cases hf : fromE k s l with
 |nil => rfl
 |cons x r =>
  simp only
  split
  ·rename_i hx
   have hm : x ∈ l := by rw [← to_from k s l, hf]; simp
   rw [← hx, may_of (namesE_mem hm)] at h
   cases h
  ·rfl
theorem getE_end {l : List EntM} {k : Bytes} {s : Int} (h : (toE k s l).length = l.length) : getE l k s = none := by
 have e := to_drop k s l
 rw [h, kCt] at e
 unfold getE; rw [← e]
theorem getE_at {l : List EntM} {k : Bytes} {s : Int} (h : (toE k s l).length < l.length) : getE l k s = if l[(toE k s l).length].k = k then some l[(toE k s l).length] else none := by
 have e := to_drop k s l
 rw [kBs h] at e
 unfold getE; rw [← e]
set_option maxHeartbeats 4000000 in
theorem Get_T {w : World} {tb : Nat} {l : List EntM} {a : Option Addr} {c nb : Nat} {k : Bytes} {s : Int} (hT : TabR w tb l a c nb) (hr : Rise l) (hl : l.length ≤ 16777216) (hk : k.length ≤ 1099511627776) (hb : (bloomB (namesE l)).length ≤ 1099511627776) :
  Cl Tryz.prog f_table_Table_Get [ptr tb, Str k, .int .i64 s] w fun v w' => v = entO (getE l k s) ∧ St w [] [] w' := by
 have hS := St.start w
 obtain ⟨g2, o2, e2, -, hc2⟩ := hT.cells 2 _ rfl
 simp only [Option.some.injEq, Addr.mk.injEq, and_true] at e2
 obtain ⟨rfl, rfl⟩ := e2
 have hle := toE_le k s l
 refine en_table_Table_Get rfl ?_
 refine jq ⟨?_⟩
 refine hS.al ?_
 intro b6 w1 _ hS
 refine jq ⟨?_⟩
 refine (May_T (TabR.old hS hT) hk hb).mono ?_
 rintro _ w2 ⟨rfl, hS'⟩
 have hS := hS.call0 hS'
 cases hm : mayB (bloomB (namesE l)) k with
 |false =>
  rw [may_none hm]
  (repeat (refine jt ⟨?_⟩; refine hS.st rfl rfl ?_; intro _ hS)); refine jt ⟨?_⟩
  exact ⟨rfl, hS.nil⟩
 |true =>
  refine jq ⟨?_⟩
  refine (place_spec (TabR.old hS hT) hr (by omega)).mono ?_
  rintro _ w3 ⟨rfl, hS'⟩
  have hS := hS.call0 hS'
  by_cases he : (toE k s l).length = l.length
  ·rw [getE_end he]
   (repeat (refine jt ⟨?_⟩; refine hS.st rfl rfl ?_; intro _ hS)); refine jt ⟨?_⟩
   refine hS.ldOld (by simp) (by simpa using hc2) ?_
   (repeat (refine jt ⟨?_⟩; refine hS.st rfl rfl ?_; intro _ hS)); refine jt ⟨?_⟩
   exact ⟨rfl, hS.nil⟩
  ·have hlt : (toE k s l).length < l.length := by omega
   rw [getE_at hlt]
   obtain ⟨g, off, rfl, hx⟩ := ent_at hT.ents hlt
   generalize (toE k s l).length = m at hlt hx he ⊢
   generalize hu : l[m] = u at hx ⊢
   (repeat (refine jt ⟨?_⟩; refine hS.st rfl rfl ?_; intro _ hS)); refine jt ⟨?_⟩
   refine hS.ldOld (by simp) (by simpa using hc2) ?_
   (repeat (refine jt ⟨?_⟩; refine hS.st rfl rfl ?_; intro _ hS)); refine jt ⟨?_⟩
   refine hS.ldOld (by simp) (by simpa using hc2) ?_
   (repeat (refine jt ⟨?_⟩; refine hS.st rfl rfl ?_; intro _ hS)); refine jt ⟨?_⟩
   refine hS.ldOld (by simp) (by have := hx 0 _ rfl; rw [show off + ((m : Int)).toNat * 4 + 0 = off + m * 4 + 0 by omega]; exact this) ?_
   by_cases hku : u.k = k
   ·rw [if_pos hku]
    (repeat (refine jt ⟨?_⟩; refine hS.st rfl rfl ?_; intro _ hS)); refine jt ⟨?_⟩
    refine hS.ldOld (by simp) (by simpa using hc2) ?_
    (repeat (refine jt ⟨?_⟩; refine hS.st rfl rfl ?_; intro _ hS)); refine jt ⟨?_⟩
    refine ldnW (cs := [Str u.k, .int .i64 u.s, .bool u.d, Str u.v]) rfl (fun j x hj => hS.oldCell (by simp) (by have := hx j x hj; rw [show off + ((m : Int)).toNat * 4 + j = off + m * 4 + j by omega]; exact this)) ?_
    (repeat (refine jt ⟨?_⟩; refine hS.st rfl rfl ?_; intro _ hS)); refine jt ⟨?_⟩
    exact ⟨rfl, hS.nil⟩
   ·rw [if_neg hku]
    (repeat (refine jt ⟨?_⟩; refine hS.st rfl rfl ?_; intro _ hS)); refine jt ⟨?_⟩
    exact ⟨rfl, hS.nil⟩
def textO (t : Bytes) : Bytes × Int × Bytes := match textR t with
 |some (s, r) => (s, 0, r)
 |none => ([], 1, t)
set_option maxHeartbeats 1000000 in
theorem RText_spec {w : World} {b : Nat} {t : Bytes} (hh : Holds [(b, rdC t)] w) (ht : t.length ≤ 70368744177664) :
  Cl Tryz.prog f_pack_Reader_Text [ptr b] w fun v w' => v = .tuple ⟨[Str (textO t).1, .int .i64 (textO t).2.1]⟩ ∧ St w [b] [(b, rdC (textO t).2.2)] w' := by
 have hS : St w [b] [(b, rdC t)] w := St.enter hh
 refine en_pack_Reader_Text rfl ?_
 (repeat (refine jt ⟨?_⟩; refine hS.st rfl rfl ?_; intro _ hS)); refine jt ⟨?_⟩
 refine Cl.mono (RNum_spec hh ht) ?_
 rintro _ w1 ⟨rfl, hS1⟩
 have hlt := numO_lt t
 have hln := numO_len t
 unfold textO textR
 cases h : numR t with
 |none =>
  have hn : numO t = (0, 1, t) := by unfold numO; rw [h]
  rw [hn] at hS1 ⊢
  simp only at hS1 ⊢
  have hS := hS1
  (repeat (refine jt ⟨?_⟩; refine hS.st rfl rfl ?_; intro _ hS)); refine jt ⟨?_⟩
  exact ⟨rfl, hS⟩
 |some x =>
  obtain ⟨m, r⟩ := x
  have hn : numO t = (m, 0, r) := by unfold numO; rw [h]
  rw [hn] at hS1 hlt hln ⊢
  simp only at hS1 hlt hln ⊢
  have hS := hS1
  by_cases hm : r.length < m
  ·rw [if_pos hm]
   (repeat (refine jt ⟨?_⟩; refine hS.st rfl rfl ?_; intro _ hS)); refine jt ⟨?_⟩
   exact ⟨rfl, hS⟩
  ·rw [if_neg hm]
   (repeat (refine jt ⟨?_⟩; refine hS.st rfl rfl ?_; intro _ hS)); refine jt ⟨?_⟩
   exact ⟨rfl, hS⟩
theorem numO_at {n : Nat} (hn : n < 18446744073709551616) (r : Bytes) : numO (numB n ++ r) = (n, 0, r) := by
 unfold numO; rw [(numR_iff _ n r).2 ⟨rfl, hn⟩]
theorem textO_at {s : Bytes} (hn : s.length < 18446744073709551616) (r : Bytes) : textO (textB s ++ r) = (s, 0, r) := by
 unfold textO; rw [(textR_iff _ s r).2 ⟨rfl, hn⟩]
abbrev brC (rb : Nat) (last : Bytes) : Obj := .cells ⟨[ptr rb, Str last, .bool false]⟩ T_block_reader (0, 0)
set_option maxHeartbeats 1000000 in
theorem bnum_spec {w : World} {b rb n : Nat} {last r : Bytes} (hh : Holds [(b, brC rb last), (rb, rdC (numB n ++ r))] w) (hn : n < 18446744073709551616) (ht : (numB n ++ r).length ≤ 70368744177664) :
  Cl Tryz.prog f_block_reader_num [ptr b] w fun v w' => v = .int .u64 n ∧ St w [b, rb] [(b, brC rb last), (rb, rdC r)] w' := by
 have hS := St.enter hh
 refine en_block_reader_num rfl ?_
 (repeat (refine jt ⟨?_⟩; refine hS.st rfl rfl ?_; intro _ hS)); refine jt ⟨?_⟩
 refine (RNum_spec (hS.part (L := [(rb, rdC (numB n ++ r))])) ht).mono ?_
 rintro _ w1 ⟨rfl, hS'⟩
 have hS := hS.call (L := [(rb, rdC (numB n ++ r))]) hS'
 rw [numO_at hn] at hS ⊢
 (repeat (refine jt ⟨?_⟩; refine hS.st rfl rfl ?_; intro _ hS)); refine jt ⟨?_⟩
 exact ⟨rfl, hS⟩
set_option maxHeartbeats 1000000 in
theorem btext_spec {w : World} {b rb : Nat} {last s r : Bytes} (hh : Holds [(b, brC rb last), (rb, rdC (textB s ++ r))] w) (ht : (textB s ++ r).length ≤ 70368744177664) :
  Cl Tryz.prog f_block_reader_text [ptr b] w fun v w' => v = Str s ∧ St w [b, rb] [(b, brC rb last), (rb, rdC r)] w' := by
 have hS := St.enter hh
 have hsl : s.length < 18446744073709551616 := by
  unfold textB at ht; simp only [kAa] at ht; omega
 refine en_block_reader_text rfl ?_
 (repeat (refine jt ⟨?_⟩; refine hS.st rfl rfl ?_; intro _ hS)); refine jt ⟨?_⟩
 refine (RText_spec (hS.part (L := [(rb, rdC (textB s ++ r))])) ht).mono ?_
 rintro _ w1 ⟨rfl, hS'⟩
 have hS := hS.call (L := [(rb, rdC (textB s ++ r))]) hS'
 rw [textO_at hsl] at hS ⊢
 (repeat (refine jt ⟨?_⟩; refine hS.st rfl rfl ?_; intro _ hS)); refine jt ⟨?_⟩
 exact ⟨rfl, hS⟩
theorem zigU {z : Int} (h : i64ok z) : zig z < 18446744073709551616 := by unfold i64ok at h; unfold zig; split <;> omega
theorem intO_at {z : Int} (hz : i64ok z) (r : Bytes) : intO (intB z ++ r) = (z, 0, r) := by
 unfold intO intB
 rw [numO_at (zigU hz)]
 simp only [unzig_zig]
set_option maxRecDepth 8000 in
set_option maxHeartbeats 8000000 in
theorem bentry_spec {w : World} {b rb : Nat} {last r : Bytes} {x : EntM} (hh : Holds [(b, brC rb last), (rb, rdC (entB last x ++ r))] w) (hk : x.k.length ≤ 1099511627776) (hl : last.length ≤ 1099511627776) (hs : i64ok x.s) (hf : x.d = true → x.v = []) (ht : (entB last x ++ r).length ≤ 70368744177664) :
  Cl Tryz.prog f_block_reader_entry [ptr b] w fun v w' => v = entV x ∧ St w [b, rb] [(b, brC rb x.k), (rb, rdC r)] w' := by
 have hS := St.enter hh
 have hsh := shareN_le last x.k
 have hjoin := shareN_join last x.k
 have hshs := Shared_spec last x.k hl hk
 unfold entB at hS ht
 simp only [kAc] at hS ht
 generalize hn : shareN last x.k = n at hS ht hsh hjoin hshs
 generalize hT : keys [(b, brC rb last), (rb, rdC (numB n ++ (textB (x.k.drop n) ++ (intB x.s ++ ((if x.d then numB 1 else numB 0 ++ textB x.v) ++ r)))))] = T0 at hS
 have hT' : [b, rb] = T0 := hT
 rw [hT']
 generalize hR : (if x.d then numB 1 else numB 0 ++ textB x.v) ++ r = R1 at hS ht
 have hl1 : (textB (x.k.drop n) ++ (intB x.s ++ R1)).length ≤ 70368744177664 := by rw [kAa] at ht; omega
 have hl2 : (intB x.s ++ R1).length ≤ 70368744177664 := by rw [kAa] at hl1; omega
 have hl3 : R1.length ≤ 70368744177664 := by rw [kAa] at hl2; omega
 refine en_block_reader_entry rfl ?_
 (repeat (refine jt ⟨?_⟩; refine hS.st rfl rfl ?_; intro _ hS)); refine jt ⟨?_⟩
 refine hS.al ?_
 intro b2 w1 _ hS
 have hS : St w T0 ([(b, brC rb last), (rb, rdC (numB n ++ (textB (x.k.drop n) ++ (intB x.s ++ R1))))] ++ [(b2, .cells ⟨[Str [], .int .i64 0, .bool false, Str []]⟩ T_api_Entry (0, 0))]) w1 := St.perm hS (kCi (l₁ := [_]))
 (repeat (refine jt ⟨?_⟩; refine hS.st rfl rfl ?_; intro _ hS)); refine jt ⟨?_⟩
 refine (bnum_spec (hS.part (L := [(b, brC rb last), (rb, rdC (numB n ++ (textB (x.k.drop n) ++ (intB x.s ++ R1))))])) (by omega) ht).mono ?_
 rintro _ w2 ⟨rfl, hS'⟩
 have hS := hS.call (L := [(b, brC rb last), (rb, rdC (numB n ++ (textB (x.k.drop n) ++ (intB x.s ++ R1))))]) hS'
 (repeat (refine jt ⟨?_⟩; refine hS.st rfl rfl ?_; intro _ hS)); refine jt ⟨?_⟩
 refine (btext_spec (hS.part (L := [(b, brC rb last), (rb, rdC (textB (x.k.drop n) ++ (intB x.s ++ R1)))])) hl1).mono ?_
 rintro _ w3 ⟨rfl, hS'⟩
 have hS := hS.call (L := [(b, brC rb last), (rb, rdC (textB (x.k.drop n) ++ (intB x.s ++ R1)))]) hS'
 (repeat (refine jt ⟨?_⟩; refine hS.st rfl rfl ?_; intro _ hS)); refine jt ⟨?_⟩
 refine (RInt_spec (hS.part (L := [(rb, rdC (intB x.s ++ R1))])) hl2).mono ?_
 rintro _ w4 ⟨rfl, hS'⟩
 have hS := hS.call (L := [(rb, rdC (intB x.s ++ R1))]) hS'
 rw [intO_at hs] at hS ⊢
 (repeat (refine jt ⟨?_⟩; refine hS.st rfl rfl ?_; intro _ hS)); refine jt ⟨?_⟩
 cases hd : x.d with
 |true =>
  rw [hd, if_pos rfl] at hR
  subst hR
  refine (bnum_spec (hS.part (L := [(b, brC rb last), (rb, rdC (numB 1 ++ r))])) (by omega) hl3).mono ?_
  rintro _ w5 ⟨rfl, hS'⟩
  have hS := hS.call (L := [(b, brC rb last), (rb, rdC (numB 1 ++ r))]) hS'
  (repeat (refine jt ⟨?_⟩; refine hS.st rfl rfl ?_; intro _ hS)); refine jt ⟨?_⟩
  rw [show ((n : Int)).toNat = n by omega]
  (repeat (refine jt ⟨?_⟩; refine hS.st rfl rfl ?_; intro _ hS)); refine jt ⟨?_⟩
  refine Chk.mk (by rw [kAo, kBf]; omega) ?_
  rw [hjoin]
  (repeat (refine jt ⟨?_⟩; refine hS.st rfl rfl ?_; intro _ hS)); refine jt ⟨?_⟩
  refine hS.al ?_
  intro b8 w6 _ hS
  (repeat (refine jt ⟨?_⟩; refine hS.st rfl rfl ?_; intro _ hS)); refine jt ⟨?_⟩
  refine SemW.draw tblOk mixed (fun w' => St w _ _ w') [13] [0, 1, 2, 3, 4, 5, 6, 8, 9, 7, 10, 11, 12, 13] (by kernel_rfl) hS.drew ?_
  have hS := hS.drew
  refine jr ⟨?_⟩
  refine (hshs _).mono ?_
  rintro _ w7 ⟨rfl, hS'⟩
  have hS := hS.call0 hS'
  refine Chk.mk hS ?_
  refine jr ⟨?_⟩
  (repeat (refine jt ⟨?_⟩; refine hS.st rfl rfl ?_; intro _ hS)); refine jt ⟨?_⟩
  simp only [decide_true, Bool.not_true] at hS
  refine ⟨by simp [entV, entC, hd, hf hd], hS.sub ?_⟩
  exact (kBk [(b, _), (rb, _)] _).trans (kAb _ _)
 |false =>
  rw [hd, if_neg (by simp), kAc] at hR
  subst hR
  refine (bnum_spec (hS.part (L := [(b, brC rb last), (rb, rdC (numB 0 ++ (textB x.v ++ r)))])) (by omega) hl3).mono ?_
  rintro _ w5 ⟨rfl, hS'⟩
  have hS := hS.call (L := [(b, brC rb last), (rb, rdC (numB 0 ++ (textB x.v ++ r)))]) hS'
  (repeat (refine jt ⟨?_⟩; refine hS.st rfl rfl ?_; intro _ hS)); refine jt ⟨?_⟩
  rw [show ((n : Int)).toNat = n by omega]
  (repeat (refine jt ⟨?_⟩; refine hS.st rfl rfl ?_; intro _ hS)); refine jt ⟨?_⟩
  refine Chk.mk (by rw [kAo, kBf]; omega) ?_
  rw [hjoin]
  (repeat (refine jt ⟨?_⟩; refine hS.st rfl rfl ?_; intro _ hS)); refine jt ⟨?_⟩
  refine hS.al ?_
  intro b8 w6 _ hS
  (repeat (refine jt ⟨?_⟩; refine hS.st rfl rfl ?_; intro _ hS)); refine jt ⟨?_⟩
  refine SemW.draw tblOk mixed (fun w' => St w _ _ w') [13] [0, 1, 2, 3, 4, 5, 6, 8, 9, 7, 10, 11, 12, 13] (by kernel_rfl) hS.drew ?_
  have hS := hS.drew
  refine jr ⟨?_⟩
  refine (hshs _).mono ?_
  rintro _ w7 ⟨rfl, hS'⟩
  have hS := hS.call0 hS'
  refine Chk.mk hS ?_
  refine jr ⟨?_⟩
  (repeat (refine jt ⟨?_⟩; refine hS.st rfl rfl ?_; intro _ hS)); refine jt ⟨?_⟩
  simp only [decide_true, Bool.not_true] at hS
  refine (btext_spec (hS.part (L := [(b, brC rb last), (rb, rdC (textB x.v ++ r))])) (by rw [kAa] at hl3; omega)).mono ?_
  rintro _ w8 ⟨rfl, hS'⟩
  have hS := hS.call (L := [(b, brC rb last), (rb, rdC (textB x.v ++ r))]) hS'
  (repeat (refine jt ⟨?_⟩; refine hS.st rfl rfl ?_; intro _ hS)); refine jt ⟨?_⟩
  refine ⟨by simp [entV, entC, hd], hS.sub ?_⟩
  exact (kBk [(b, _), (rb, _)] _).trans (kAb _ _)
theorem entsB_drop {l : List EntM} {i : Nat} (h : i < l.length) : entsB (lastK [] (l.take i)) (l.drop i) = entB (lastK [] (l.take i)) l[i] ++ entsB (lastK [] (l.take (i + 1))) (l.drop (i + 1)) := by
 rw [kBs h, entsB, kAn h, lastK_snoc]
set_option maxRecDepth 8000 in
set_option maxHeartbeats 8000000 in
theorem DecodeB_spec {w : World} {l : List EntM} (hr : Rise l) (hf : FineE l) (hfit : FitE l) (hn : l.length ≤ 16777216) :
  Cl Tryz.prog f_block_Decode [Str (blockB l)] w fun v w' => ∃ a c L, v = .tuple ⟨[.slice a l.length c, .int .i64 0]⟩ ∧ Vec T_api_Entry 4 a l.length c (l.flatMap entC) L ∧ St w [] L w' := by
 have hS := St.start w
 have hn10 := numB_len10 l.length (by omega)
 have hsz := hfit.sz
 have hel := entsB_le l [] hfit (by simp)
 have hbl : (blockB l).length ≤ 70368744177664 := by unfold blockB; rw [kAa]; omega
 refine en_block_Decode rfl ?_
 refine jq ⟨?_⟩
 refine PRead_spec.mono ?_
 rintro _ w1 ⟨rb, rfl, hS'⟩
 have hS := hS.callNew hS'
 rw [kAk] at hS
 refine jq ⟨?_⟩
 refine hS.al ?_
 intro b w2 _ hS
 refine jq ⟨?_⟩
 unfold blockB at hS hbl
 refine (bnum_spec (hS.part (L := [(b, brC rb []), (rb, rdC (numB l.length ++ entsB [] l))])) (by omega) hbl).mono ?_
 rintro _ w3 ⟨rfl, hS'⟩
 have hS := hS.call (L := [(b, brC rb []), (rb, rdC (numB l.length ++ entsB [] l))]) hS'
 refine jq ⟨?_⟩
 refine SemW.loop (fun i : Nat × Option Addr × Nat => [(4, ptr b), (5, .int .u64 l.length), (6, .slice i.2.1 i.1 i.2.2), (7, .int .u64 i.1)])
  (fun i w' => i.1 ≤ l.length ∧ ∃ L, Vec T_api_Entry 4 i.2.1 i.1 i.2.2 ((l.take i.1).flatMap entC) L ∧ St w [] (L ++ [(b, brC rb (lastK [] (l.take i.1))), (rb, rdC (entsB (lastK [] (l.take i.1)) (l.drop i.1)))]) w') (fun i => l.length - i.1) (0, none, 0)
  ⟨rfl, rfl, rfl, rfl, trivial⟩ ⟨kAg _, [], Vec.nil, hS⟩ ?_
 clear hS hS'
 rintro ⟨i, a, c⟩ w5 ⟨hi, L, hv, hS⟩
 simp only at hi hv hS ⊢
 by_cases hil : i < l.length
 ·have hent := entsB_drop hil
  have hsucc := kAn hil
  have hfx := hf l[i] (kAx hil)
  have hsx := hfit.seq l[i] (kAx hil)
  have hzx := szsE_mem (kAx hil)
  have hzx2 : szE l[i] = l[i].k.length + l[i].v.length := rfl
  have htl : (l.take i).length = i := by rw [kAo]; omega
  have hlk : (lastK [] (l.take i)).length ≤ 1099511627776 := by
   unfold lastK
   split
   ·simp
   ·rename_i y hy
    have := szsE_mem (kDd (kDl hy))
    have h2 : szE y = y.k.length + y.v.length := rfl
    omega
  have hfd : FitE (l.drop i) := ⟨fun y hy => hfit.seq y (List.mem_of_mem_drop hy), by
   have := szsE_app (l.take i) (l.drop i)
   rw [kAu] at this; omega⟩
  have hbd := entsB_le (l.drop i) (lastK [] (l.take i)) hfd hlk
  rw [kBf] at hbd
  have hbd2 := hfd.sz
  rw [hent] at hS hbd
  have hlk2 : lastK [] (l.take (i + 1)) = l[i].k := by rw [hsucc, lastK_snoc]
  have hris : ∀ (hp : 0 < i), elt l[i - 1] l[i] = true := fun hp => kDe.1 hr (i - 1) i (by omega) hil (by omega)
  have hpv : ∀ (hp : 0 < i), (l.take i)[i - 1]'(by omega) = l[i - 1] := fun hp => by rw [List.getElem_take]
  generalize hu : l[i] = u at hfx hsx hzx hzx2 hris hS hbd hsucc hlk2
  (repeat (refine jt ⟨?_⟩; refine hS.st rfl rfl ?_; intro _ hS)); refine jt ⟨?_⟩
  refine (bentry_spec (hS.part (L := [(b, brC rb (lastK [] (l.take i))), (rb, rdC (entB (lastK [] (l.take i)) u ++ entsB (lastK [] (l.take (i + 1))) (l.drop (i + 1))))])) (by omega) hlk hsx hfx (by omega)).mono ?_
  rintro _ w6 ⟨rfl, hS'⟩
  have hS := hS.call (L := [(b, brC rb (lastK [] (l.take i))), (rb, rdC (entB (lastK [] (l.take i)) u ++ entsB (lastK [] (l.take (i + 1))) (l.drop (i + 1))))]) hS'
  rw [show entV u = .agg ⟨[Str u.k, .int .i64 u.s, .bool u.d, Str u.v]⟩ from rfl]
  refine jq ⟨?_⟩
  refine hS.al ?_
  intro b8 w7 _ hS
  (repeat (refine jt ⟨?_⟩; refine hS.st rfl rfl ?_; intro _ hS)); refine jt ⟨?_⟩
  by_cases h0 : 0 < i
  ·have hris := hris h0
   have hpv := hpv h0
   generalize l[i - 1] = v at hris hpv
   have hrs := fun w => rises_spec v u w
   unfold entV entC at hrs
   rw [hris] at hrs
   rcases hv.inv with ⟨-, h1, -, -, -⟩ | ⟨g, tl, rfl, hx4, hx5, hx6, hLe⟩
   ·omega
   refine SemW.draw tblOk mixed (fun w' => St w _ _ w') [21] [0, 1, 2, 3, 4, 5, 6, 7, 8, 9, 10, 11, 12, 13, 14, 15, 16, 17, 18, 19, 20, 21] (by kernel_rfl) hS.drew ?_
   have hS := hS.drew
   refine jr ⟨?_⟩
   refine ldnS (cs := [Str v.k, .int .i64 v.s, .bool v.d, Str v.v]) rfl (fun w' hw j x hj => by
    obtain ⟨g', o', h1, h2⟩ := ent_at (hv.arr hw (T' := []) (by simp)) (k := i - 1) (by omega)
    simp only [Option.some.injEq, Addr.mk.injEq, and_true] at h1
    obtain ⟨rfl, rfl⟩ := h1
    have := h2 j x (by rw [hpv]; exact hj)
    rw [show 0 + ((i : Int) - 1).toNat * 4 + j = 0 + (i - 1) * 4 + j by omega]; exact this) ?_
   refine jr ⟨?_⟩
   refine (hrs _).mono ?_
   rintro _ w8 ⟨rfl, hS'⟩
   have hS := hS.call0 hS'
   refine Chk.mk hS ?_
   refine jr ⟨?_⟩
   (repeat (refine jt ⟨?_⟩; refine hS.st rfl rfl ?_; intro _ hS)); refine jt ⟨?_⟩
   refine hS.al ?_
   intro b9 w8 _ hS
   (repeat (refine jt ⟨?_⟩; refine hS.st rfl rfl ?_; intro _ hS)); refine jt ⟨?_⟩
   try simp only [Bool.not_true] at hS
   refine St.app (sz := 4) (m := 1) tblOk rfl rfl rfl rfl hS hv (news := entC u) (by rfl) (hS.arr (b := b9) (T' := []) (by simp)) (by rfl) (by show (_ + _) * 48 ≤ _; omega) (by omega) ?_
   intro a4 c4 L4 w9 hv4 hS
   (repeat (refine jt ⟨?_⟩; refine hS.st rfl rfl ?_; intro _ hS)); refine jt ⟨?_⟩
   refine ⟨(i + 1, a4, c4), ⟨rfl, rfl, rfl, rfl, trivial⟩, ⟨hil, L4, by rw [hsucc, ents_app]; exact hv4, ?_⟩, by simp; omega⟩
   rw [hlk2] at hS ⊢
   exact hS.sub ((kAb _ _).trans (kAb _ _))
  ·refine SemW.draw tblOk mixed (fun w' => St w _ _ w') [21] [0, 1, 2, 3, 4, 5, 6, 7, 8, 9, 10, 11, 12, 13, 14, 15, 16, 17, 18, 19, 20, 21] (by kernel_rfl) hS.drew ?_
   have hS := hS.drew
   refine jr ⟨?_⟩
   (repeat (refine jt ⟨?_⟩; refine hS.st rfl rfl ?_; intro _ hS)); refine jt ⟨?_⟩
   refine hS.al ?_
   intro b9 w8 _ hS
   (repeat (refine jt ⟨?_⟩; refine hS.st rfl rfl ?_; intro _ hS)); refine jt ⟨?_⟩
   try simp only [Bool.not_true] at hS
   refine St.app (sz := 4) (m := 1) tblOk rfl rfl rfl rfl hS hv (news := entC u) (by rfl) (hS.arr (b := b9) (T' := []) (by simp)) (by rfl) (by show (_ + _) * 48 ≤ _; omega) (by omega) ?_
   intro a4 c4 L4 w9 hv4 hS
   (repeat (refine jt ⟨?_⟩; refine hS.st rfl rfl ?_; intro _ hS)); refine jt ⟨?_⟩
   refine ⟨(i + 1, a4, c4), ⟨rfl, rfl, rfl, rfl, trivial⟩, ⟨hil, L4, by rw [hsucc, ents_app]; exact hv4, ?_⟩, by simp; omega⟩
   rw [hlk2] at hS ⊢
   exact hS.sub ((kAb _ _).trans (kAb _ _))
 ·obtain rfl : i = l.length := by omega
  rw [kAr] at hv
  rw [kCt] at hS
  simp only [entsB] at hS
  (repeat (refine jt ⟨?_⟩; refine hS.st rfl rfl ?_; intro _ hS)); refine jt ⟨?_⟩
  refine (RDone_spec (hS.part (L := [(rb, rdC [])]))).mono ?_
  rintro _ w6 ⟨rfl, hS'⟩
  have hS := hS.call0 hS'
  (repeat (refine jt ⟨?_⟩; refine hS.st rfl rfl ?_; intro _ hS)); refine jt ⟨?_⟩
  exact ⟨a, c, L, rfl, hv, hS.sub (kBk _ _)⟩
inductive TabO (tb : Nat) (l : List EntM) : Heap → Prop where
 |mk (a : Option Addr) (c : Nat) (L : Heap) (hv : Vec T_api_Entry 4 a l.length c (l.flatMap entC) L) :
  TabO tb l ((tb, .cells ⟨[.int .i64 l.length, .int .i64 (pieces 8 l).length, .slice a l.length c, Str (bloomB (namesE l))]⟩ T_table_Table (0, 0)) :: L)
set_option maxRecDepth 8000 in
set_option maxHeartbeats 8000000 in
theorem TOpen_spec {w : World} {l : List EntM} (ht : TabF l) :
  Cl Tryz.prog f_table_Open [Str (tableB l)] w fun v w' => ∃ tb L, v = .tuple ⟨[ptr tb, .int .i64 0]⟩ ∧ TabO tb l L ∧ St w [] L w' := by
 have hS := St.start w
 obtain ⟨P, hP⟩ : ∃ P, pieces 8 l = P := ⟨_, rfl⟩
 have hcnt : P.length ≤ 8 := by rw [← hP]; exact ht.cnt
 have hl64 := ht.len
 have htp : tableP l = P.map blockB ++ [(idxE l).1, bloomB (namesE l), magicB ++ (numB (idxE l).2 ++ numB l.length)] := by unfold tableP; rw [hP]
 have htl : (tableP l).length = P.length + 3 := by rw [htp]; simp
 refine en_table_Open rfl ?_
 refine jq ⟨?_⟩
 refine (Scan_spec (tableB l) (by have := ht.bytes; omega)).mono ?_
 rw [show scan (tableB l) = (tableP l, (tableB l).length) from scan_seal _ ht.ok]
 rintro _ w1 ⟨a, cap, Lv, rfl, hv, hS'⟩
 have hS := hS.callNew hS'
 simp only at hv ⊢
 rw [htl] at hv ⊢
 obtain ⟨g, lt, rfl, -, -, hnc, rfl⟩ : ∃ g l', a = some ⟨g, 0, none⟩ ∧ ((tableP l).map Str).length = (P.length + 3) * 1 ∧ ((tableP l).map Str).length + l'.length = cap * 1 ∧ P.length + 3 ≤ cap ∧ Lv = [(g, .cells ⟨(tableP l).map Str ++ l'⟩ T_string (0, 0))] := by
  rcases hv.inv with ⟨_, h, _⟩ | h
  ·omega
  ·exact h
 have hget : ∀ i, i < P.length → ((tableP l).map Str ++ lt)[i]? = some (Str (blockB (P.getD i []))) := by
  intro i hi
  rw [kAz (by rw [kAv]; omega), htp, kAi, kAz (by simpa using hi)]
  simp [hi]
 have hgb : ((tableP l).map Str ++ lt)[P.length + 1]? = some (Str (bloomB (namesE l))) := by
  rw [kAz (by rw [kAv]; omega), htp, kAi, kBh (by simp)]
  simp
 have hbs := ht.bytes
 generalize htx : tableB l = text at hbs ⊢
 have hS : St w [] [(g, .cells ⟨(tableP l).map Str ++ lt⟩ T_string (0, 0))] w1 := hS
 clear hS'
 (repeat (refine jt ⟨?_⟩; refine hS.st rfl rfl ?_; intro _ hS)); refine jt ⟨?_⟩
 rw [show (((P.length + 3 : Nat) : Int) - 3) = (P.length : Int) by omega]
 refine hS.ld (v := Str (bloomB (namesE l))) (by rw [show 0 + ((P.length : Int) + 1).toNat * 1 = P.length + 1 by omega]; exact hgb) ?_
 (repeat (refine jt ⟨?_⟩; refine hS.st rfl rfl ?_; intro _ hS)); refine jt ⟨?_⟩
 refine hS.al ?_
 intro tb w2 _ hS
 (repeat (refine jt ⟨?_⟩; refine hS.st rfl rfl ?_; intro _ hS)); refine jt ⟨?_⟩
 have hst : St w [] ((tb, .cells ⟨[.int .i64 0, .int .i64 P.length, .slice none ((P.take 0).flatten).length 0, Str (bloomB (namesE l))]⟩ T_table_Table (0, 0)) :: ([] ++ [(g, .cells ⟨(tableP l).map Str ++ lt⟩ T_string (0, 0))])) _ := hS
 clear hS
 have hPk : ∀ k, k ≤ P.length → ((P.take k).flatten) = l.take (k * 8) := by
  intro k hk
  rw [← hP, pieces_take (by omega) l k (by rw [hP]; exact hk)]
 have hPg : ∀ i (hi : i < P.length), i * 8 < l.length ∧ P[i] = (l.drop (i * 8)).take 8 := by
  subst hP
  intro i hi
  exact ⟨pieces_lt (by omega) hi, pieces_get hi⟩
 have hflat : P.flatten = l := by rw [← hP]; exact pieces_flat (by omega) l
 refine SemW.loop (fun i : Nat × Option Addr × Nat => [(0, Str text), (7, ptr tb), (44, .slice (some ⟨g, 0, none⟩) P.length cap), (45, .int .i64 P.length), (46, .int .i64 i.1)])
  (fun i w' => i.1 ≤ P.length ∧ ∃ L, Vec T_api_Entry 4 i.2.1 ((P.take i.1).flatten).length i.2.2 (((P.take i.1).flatten).flatMap entC) L ∧
   St w [] ((tb, .cells ⟨[.int .i64 0, .int .i64 P.length, .slice i.2.1 ((P.take i.1).flatten).length i.2.2, Str (bloomB (namesE l))]⟩ T_table_Table (0, 0)) :: (L ++ [(g, .cells ⟨(tableP l).map Str ++ lt⟩ T_string (0, 0))])) w') (fun i => P.length - i.1) (0, none, 0)
  ⟨rfl, rfl, rfl, rfl, rfl, trivial⟩ ⟨kAg _, [], Vec.nil, hst⟩ ?_
 clear hst
 rintro ⟨k, a1, c1⟩ w3 ⟨hk, L, hV, hS⟩
 simp only at hk hV hS ⊢
 by_cases hkl : k < P.length
 ·obtain ⟨hk8, hPk1⟩ := hPg k hkl
  have hpt := ht.piece k
  have hsucc : (P.take (k + 1)).flatten = (P.take k).flatten ++ (l.drop (k * 8)).take 8 := by rw [kAn hkl, kBy, hPk1]; simp
  have hgk := hget k hkl
  rw [kCe, kAp hkl, kBu, hPk1] at hgk
  have hql : ((P.take k).flatten).length ≤ 64 := by rw [hPk k hk, kAo]; omega
  generalize (P.take k).flatten = q at hV hS hsucc hql ⊢
  generalize (l.drop (k * 8)).take 8 = p at hpt hsucc hgk
  have hpl := hpt.len
  have hol := entsC_len p
  (repeat (refine jt ⟨?_⟩; refine hS.st rfl rfl ?_; intro _ hS)); refine jt ⟨?_⟩
  refine hS.ld (v := Str (blockB p)) (by rw [show 0 + (k : Int).toNat * 1 = k by omega]; exact hgk) ?_
  (repeat (refine jt ⟨?_⟩; refine hS.st rfl rfl ?_; intro _ hS)); refine jt ⟨?_⟩
  refine (DecodeB_spec hpt.rise hpt.fine hpt.fit (by omega)).mono ?_
  rintro _ w4 ⟨a2, c2, L2, rfl, hV2, hS'⟩
  have hS := hS.callNew hS'
  (repeat (refine jt ⟨?_⟩; refine hS.st rfl rfl ?_; intro _ hS)); refine jt ⟨?_⟩
  refine St.app (sz := 4) (m := p.length) tblOk rfl rfl rfl rfl hS hV (news := p.flatMap entC) (by rw [hol]) (hV2.arr hS (by simp)) (entsC_one p) (by show (_ + _) * 48 ≤ _; omega) (by omega) ?_
  intro a3 c3 L3 w5 hV3 hS
  rw [← ents_app, ← kAa, ← hsucc] at hV3
  rw [← kAa, ← hsucc]
  (repeat (refine jt ⟨?_⟩; refine hS.st rfl rfl ?_; intro _ hS)); refine jt ⟨?_⟩
  exact ⟨(k + 1, a3, c3), ⟨rfl, rfl, rfl, rfl, rfl, trivial⟩, ⟨hkl, L3, hV3, hS.sub (kAj _ _)⟩, by simp only; omega⟩
 ·obtain rfl : k = P.length := by omega
  rw [kAr, hflat] at hV hS
  have hcl : l.length ≤ c1 := by
   rcases hV.inv with ⟨-, h1, -⟩ | ⟨-, -, -, -, -, h1, -⟩
   ·omega
   ·exact h1
  have hS := hS
  (repeat (refine jt ⟨?_⟩; refine hS.st rfl rfl ?_; intro _ hS)); refine jt ⟨?_⟩
  refine (TBuild_spec (hV.arr hS (by simp)) hcl ht).mono ?_
  rintro _ w4 ⟨rfl, hS'⟩
  have hS := hS.call0 hS'
  rw [htx]
  (repeat (refine jt ⟨?_⟩; refine hS.st rfl rfl ?_; intro _ hS)); refine jt ⟨?_⟩
  have hbf : (!decide (text = text)) = false := by simp
  repeat (refine BrG.eqf hbf ?_; (repeat (refine jt ⟨?_⟩; refine hS.st rfl rfl ?_; intro _ hS)); refine jt ⟨?_⟩)
  refine ⟨tb, _, rfl, TabO.mk (l := l) a1 c1 L hV, ?_⟩
  rw [hP]
  exact hS.sub (.cons_cons _ (kBk _ _))
def cleanE (x : EntM) : EntM := { x with v := if x.d then [] else x.v }
set_option maxHeartbeats 8000000 in
theorem MAdd_spec {w : World} {b adds : Nat} {l : List EntM} {L : Heap} (hM : MemT b l adds L) (hh : Holds L w) (hr : Rise l) {g off c : Nat} {x : EntM} (ha : Arr w (keys L) (some ⟨g, off, none⟩) (entC x)) (hb1 : szsE l + szE x ≤ 1099511627776) (hb2 : l.length ≤ 1099511627776) (hb3 : adds ≤ 4611686018427387904) :
  Cl Tryz.prog f_mem_Table_Add [ptr b, .slice (some ⟨g, off, none⟩) 1 c] w fun _ w' => ∃ L', MemT b (insE (cleanE x) l) (adds + 1) L' ∧ St w (keys L) L' w' := by
 have hS := St.enter hh
 obtain ⟨ns, hl, hhs, ht, hn, hc, hts, Lh, hv, hhr, turn, htn⟩ := hM
 obtain ⟨A, B, hab, hA, hB⟩ := cutN x.k x.s ns
 rw [hl] at hA hB
 generalize hT : keys ((b, Obj.cells ⟨memC ns.length (szsE l) ns ht hn hc turn⟩ T_mem_Table (0, 0)) :: (nodesH ns ++ Lh)) = T0 at hS ha ⊢
 subst hab
 have hx0 : (entC x).drop 0 = entC x := rfl
 refine en_mem_Table_Add rfl ?_
 refine jq ⟨?_⟩
 refine SemW.loop (fun k : Nat => [(0, ptr b), (10, .slice (some ⟨g, off, none⟩) 1 c), (11, .int .i64 1), (12, .int .i64 k)])
  (fun k w' => (k = 0 ∧ St w T0 ((b, .cells ⟨memC (A ++ B).length (szsE l) (A ++ B) ht hn hc turn⟩ T_mem_Table (0, 0)) :: (nodesH (A ++ B) ++ Lh)) w') ∨ (k = 1 ∧ ∃ L', MemT b (insE (cleanE x) l) (adds + 1) L' ∧ St w T0 L' w')) (fun k => 1 - k) 0
  ⟨rfl, rfl, rfl, rfl, trivial⟩ (.inl ⟨rfl, hS⟩) ?_
 clear hS
 rintro k w1 (⟨rfl, hS⟩ | ⟨rfl, L', hM', hS⟩)
 rotate_left
 ·refine jq ⟨?_⟩
  exact ⟨L', hM', hS⟩
 ·refine jq ⟨?_⟩
  refine Arr.ldn hS ha rfl (k := 0) (l' := [Str x.k, .int .i64 x.s, .bool x.d, Str x.v]) rfl rfl ?_
  refine jq ⟨?_⟩
  refine hS.al ?_
  intro b5 w2 _ hS
  (repeat (refine ju ⟨?_⟩; refine hS.st rfl rfl ?_; intro _ hS)); refine ju ⟨?_⟩
  refine SemW.join (fun _ : Unit => [(0, ptr b), (10, .slice (some ⟨g, off, none⟩) 1 c), (11, .int .i64 1), (12, .int .i64 (0 : Nat)), (5, ptr b5)]) (fun _ w' => St w T0 ((b5, .cells ⟨[Str x.k, .int .i64 x.s, .bool x.d, Str (cleanE x).v]⟩ T_api_Entry (0, 0)) :: (b, .cells ⟨memC (A ++ B).length (szsE l) (A ++ B) ht hn hc turn⟩ T_mem_Table (0, 0)) :: (nodesH (A ++ B) ++ Lh)) w') ?_ ?_
  ·have hS := hS
   (repeat (refine jt ⟨?_⟩; refine hS.st rfl rfl ?_; intro _ hS)); refine jt ⟨?_⟩
   refine BrG.bool (fun hd => ?_) (fun hd => ?_)
   ·have e : (cleanE x).v = [] := by unfold cleanE; rw [hd]; rfl
    rw [e]
    (repeat (refine jt ⟨?_⟩; refine hS.st rfl rfl ?_; intro _ hS)); refine jt ⟨?_⟩
    exact ⟨(), ⟨rfl, rfl, rfl, rfl, rfl, trivial⟩, hS⟩
   ·have e : (cleanE x).v = x.v := by unfold cleanE; rw [hd]; rfl
    rw [e]
    (repeat (refine jt ⟨?_⟩; refine hS.st rfl rfl ?_; intro _ hS)); refine jt ⟨?_⟩
    exact ⟨(), ⟨rfl, rfl, rfl, rfl, rfl, trivial⟩, hS⟩
  clear hS
  rintro _ w3 hS
  have hcv : (cleanE x).v.length ≤ x.v.length := by unfold cleanE; simp only; split <;> simp
  have hck : (cleanE x).k = x.k ∧ (cleanE x).s = x.s ∧ (cleanE x).d = x.d := ⟨rfl, rfl, rfl⟩
  have hmr : ∀ y ∈ A ++ B, 1 ≤ y.h := fun y hy => (hhs y hy).1
  have hah := fun {w : World} (hM : MemIn b (A ++ B) ((b, .cells ⟨memC (A ++ B).length (szsE l) (A ++ B) ht hn hc turn⟩ T_mem_Table (0, 0)) :: (nodesH (A ++ B) ++ Lh))) hh => ahead_spec (w := w) hM hh (cleanE x) (cut_ahead hA _ rfl rfl) (cut_behind hr hB _ rfl rfl)
  have hins : insE (cleanE x) l = A.map (·.e) ++ cleanE x :: (match B.map (·.e) with | [] => [] | y :: r => if y.k = x.k ∧ y.s = x.s then r else y :: r) := by
   rw [insE_eq, hA, hB]; rfl
  have hin : MemIn b (A ++ B) ((b, .cells ⟨memC (A ++ B).length (szsE l) (A ++ B) ht hn hc turn⟩ T_mem_Table (0, 0)) :: (nodesH (A ++ B) ++ Lh)) := ⟨⟨_, _, _, _, _, _, kAt⟩, fun p hp => kAs _ (kBm _ hp)⟩
  have hahs := fun {w : World} hh => hah (w := w) hin hh
  unfold entV entC at hahs
  simp only [hck.1, hck.2.1, hck.2.2] at hahs
  have hxs : szE x = x.k.length + x.v.length := rfl
  generalize hcx : cleanE x = y at hS hcv hck hins hahs ⊢
  generalize hyv : y.v = v at hS hcv hahs
  have hey : entC y = [Str x.k, .int .i64 x.s, .bool x.d, Str v] := by unfold entC; rw [hck.1, hck.2.1, hck.2.2, hyv]
  (repeat (refine jt ⟨?_⟩; refine hS.st rfl rfl ?_; intro _ hS)); refine jt ⟨?_⟩
  refine (hahs (hS.part (L := (b, .cells ⟨memC (A ++ B).length (szsE l) (A ++ B) ht hn hc turn⟩ T_mem_Table (0, 0)) :: (nodesH (A ++ B) ++ Lh)))).mono ?_
  rintro _ w4 ⟨rfl, hS'⟩
  have hS := hS.call (L := (b, .cells ⟨memC (A ++ B).length (szsE l) (A ++ B) ht hn hc turn⟩ T_mem_Table (0, 0)) :: (nodesH (A ++ B) ++ Lh)) hS'
  refine jq ⟨?_⟩
  refine hS.al ?_
  intro b6 w5 _ hS
  refine jq ⟨?_⟩
  refine hS.st (outs8_one b 0 A) rfl ?_
  intro w6 hS
  have hS : St w T0 ((b6, .cells ⟨outs8 b 0 A⟩ T_8_Ptr_mem_node (0, 0)) :: (b5, .cells ⟨[Str x.k, .int .i64 x.s, .bool x.d, Str v]⟩ T_api_Entry (0, 0)) :: (b, .cells ⟨memC (A ++ B).length (szsE l) (A ++ B) ht hn hc turn⟩ T_mem_Table (0, 0)) :: (nodesH (A ++ B) ++ Lh)) w6 := hS
  have hinH : MemIn b (A ++ B) ((b6, .cells ⟨outs8 b 0 A⟩ T_8_Ptr_mem_node (0, 0)) :: (b5, .cells ⟨[Str x.k, .int .i64 x.s, .bool x.d, Str v]⟩ T_api_Entry (0, 0)) :: (b, .cells ⟨memC (A ++ B).length (szsE l) (A ++ B) ht hn hc turn⟩ T_mem_Table (0, 0)) :: (nodesH (A ++ B) ++ Lh)) :=
   ⟨⟨_, _, _, _, _, _, kAs _ (kAs _ kAt)⟩, fun p hp => kAs _ (kAs _ (hin.nodes p hp))⟩
  have hpos : ∃ g off, PosN b A 0 g off := by
   rcases kDg A with rfl | ⟨A0, y, rfl⟩
   ·exact ⟨b, 2, PosN.head b 0⟩
   ·exact ⟨y.b, 0, ⟨.inr ⟨A0, y, by simp, rfl, rfl, by have := hmr y (by simp); omega⟩⟩⟩
  obtain ⟨g0, o0, hp0⟩ := hpos
  (repeat (refine ju ⟨?_⟩; refine hS.st rfl rfl ?_; intro _ hS)); refine ju ⟨?_⟩
  refine SemW.join (fun _ : Unit => [(0, ptr b), (10, .slice (some ⟨g, off, none⟩) 1 c), (11, .int .i64 1), (12, .int .i64 (0 : Nat)), (5, ptr b5), (6, ptr b6)])
   (fun _ w' => (∀ z ∈ B.head?, ¬ Same z.e y) ∧ St w T0 ((b6, .cells ⟨outs8 b 0 A⟩ T_8_Ptr_mem_node (0, 0)) :: (b5, .cells ⟨[Str x.k, .int .i64 x.s, .bool x.d, Str v]⟩ T_api_Entry (0, 0)) :: (b, .cells ⟨memC (A ++ B).length (szsE l) (A ++ B) ht hn hc turn⟩ T_mem_Table (0, 0)) :: (nodesH (A ++ B) ++ Lh)) w') ?_ ?_
  ·refine jq ⟨?_⟩
   refine hS.ld (v := lastP (headV b) 0 A) (outs8_get b A 0 (by omega)) ?_
   rw [hp0.lastP]
   refine jq ⟨?_⟩
   refine ldcW (hinH.next hS (l := 0) (by omega) hp0) ?_
   cases B with
   |nil =>
    refine jq ⟨?_⟩
    refine SemW.draw tblOk mixed (fun w' => St w _ _ w') [8, 9, 10] [0, 1, 2, 3, 4, 5, 6, 7, 8, 9, 10] (by kernel_rfl) hS.drew ?_
    have hS := hS.drew
    refine jr ⟨?_⟩
    refine jq ⟨?_⟩
    exact ⟨(), ⟨rfl, rfl, rfl, rfl, rfl, rfl, trivial⟩, by simp, hS⟩
   |cons z B =>
    have hz1 : 1 ≤ z.h := hmr z (by simp)
    rw [show nxt 0 (z :: B) = ptr z.b by show (if _ then _ else _) = _; rw [if_pos (by omega)]]
    refine jq ⟨?_⟩
    refine SemW.draw tblOk mixed (fun w' => St w _ _ w') [8, 9, 10] [0, 1, 2, 3, 4, 5, 6, 7, 8, 9, 10] (by kernel_rfl) hS.drew ?_
    have hS := hS.drew
    refine jr ⟨?_⟩
    refine ldnS (cs := entC z.e) rfl (fun w' hw j v hv => by rw [kBl]; exact hinH.ent hw j v hv) ?_
    refine jr ⟨?_⟩
    have hcmp := fun w => mem_compare_spec z.e y w
    unfold entV at hcmp
    rw [hey] at hcmp
    refine (hcmp _).mono ?_
    rintro _ w7 ⟨rfl, hS'⟩
    have hS := hS.call0 hS'
    refine jr ⟨?_⟩
    by_cases hsame : Same z.e y
    ·rw [(ecmp_zero _ _).2 hsame]
     refine jq ⟨?_⟩
     have hzl : z.e ∈ l := by rw [← hl]; simp
     have hzs := szsE_mem hzl
     have hzz : szE z.e = z.e.k.length + z.e.v.length := rfl
     have hsz : szsE (insE y l) + z.e.v.length = szsE l + v.length := by
      have e1 : szsE l = szsE (A.map (·.e)) + (szE z.e + szsE (B.map (·.e))) := by
       rw [← hl, kAi, szsE_app, kAh]; simp [szsE]
      have e2 : szsE (insE y l) = szsE (A.map (·.e)) + (szE y + szsE (B.map (·.e))) := by
       rw [hins, szsE_app]
       simp only [kAh, hsame.1, hsame.2, hck.1, hck.2.1, and_self, if_true]
       simp [szsE]
      have e3 : szE y = y.k.length + y.v.length := rfl
      have e4 := congrArg List.length hsame.1
      rw [hyv] at e3
      omega
     have hN : nodesH (A ++ z :: B) = nodesA A (z :: B) ++ ((z.b, .cells ⟨nodeC z B⟩ T_mem_node (0, 0)) :: nodesH B) := nodesH_app A (z :: B)
     rw [hN] at hS
     refine SemW.draw tblOk mixed (fun w' => St w _ _ w') [19] [0, 1, 2, 3, 4, 5, 6, 7, 8, 9, 10, 11, 12, 13, 14, 15, 16, 17, 18, 19] (by kernel_rfl) hS.drew ?_
     have hS := hS.drew
     refine jr ⟨?_⟩
     refine hS.st rfl rfl ?_
     intro w8 hS
     (repeat (refine jt ⟨?_⟩; refine hS.st rfl rfl ?_; intro _ hS)); refine jt ⟨?_⟩
     have e5 : nodeC { z with e := y } B = Str x.k :: .int .i64 x.s :: .bool x.d :: Str v :: cells8 (cellN z.h B) := by unfold nodeC; rw [hey]; rfl
     have e6 : (szsE l : Int) + ((v.length : Int) - (z.e.v.length : Int)) = ((szsE (insE y l) : Nat) : Int) := by omega
     have hS2 : St w T0 ((b6, .cells ⟨outs8 b 0 A⟩ T_8_Ptr_mem_node (0, 0)) :: (b5, .cells ⟨[Str x.k, .int .i64 x.s, .bool x.d, Str v]⟩ T_api_Entry (0, 0)) :: (b, .cells ⟨memC (A ++ z :: B).length ((szsE l : Int) + ((v.length : Int) - (z.e.v.length : Int))) (A ++ z :: B) ht hn hc turn⟩ T_mem_Table (0, 0)) ::
      ((nodesA A (z :: B) ++ ((z.b, .cells ⟨Str x.k :: .int .i64 x.s :: .bool x.d :: Str v :: cells8 (cellN z.h B)⟩ T_mem_node (0, 0)) :: nodesH B)) ++ Lh)) _ := hS
     rw [e6, memC_be _ _ A B z y, nodesA_be A B z y, ← e5, show (A ++ z :: B).length = (A ++ { z with e := y } :: B).length by simp] at hS2
     have hS3 := hS2.sub ((kAb _ _).trans (kAb _ _))
     refine ⟨1, ⟨rfl, rfl, rfl, rfl, trivial⟩, .inr ⟨rfl, _, MemT.mk (A ++ { z with e := y } :: B) ?_ ?_ ht hn hc hts Lh hv hhr turn (by omega), ?_⟩, by omega⟩
     ·rw [hins]
      simp only [kAi, kAh, hsame.1, hsame.2, hck.1, hck.2.1, and_self, if_true]
     ·intro u hu
      rcases kAl.1 hu with hu | hu
      ·exact hhs u (by simp [hu])
      ·rcases kAf.1 hu with rfl | hu
       ·exact hhs z (by simp)
       ·exact hhs u (by simp [hu])
     ·rw [nodesH_app]; exact hS3
    ·have hne : ¬ ecmp z.e y = 0 := fun h => hsame ((ecmp_zero _ _).1 h)
     refine jq ⟨?_⟩
     exact ⟨(), ⟨rfl, rfl, rfl, rfl, rfl, rfl, trivial⟩, by simpa using hsame, hS⟩
  ·clear hS
   rintro _ w7 ⟨hns, hS⟩
   have hS := hS
   (repeat (refine jt ⟨?_⟩; refine hS.st rfl rfl ?_; intro _ hS)); refine jt ⟨?_⟩
   refine hS.al ?_
   intro b8 w8 _ hS
   have hS : St w T0 ((b8, .cells ⟨Str x.k :: .int .i64 x.s :: .bool x.d :: Str v :: cells8 (fun _ => .pointer none)⟩ T_mem_node (0, 0)) :: (b6, .cells ⟨outs8 b 0 A⟩ T_8_Ptr_mem_node (0, 0)) :: (b5, .cells ⟨[Str x.k, .int .i64 x.s, .bool x.d, Str v]⟩ T_api_Entry (0, 0)) :: (((b, .cells ⟨memC (A ++ B).length (szsE l) (A ++ B) ht hn hc turn⟩ T_mem_Table (0, 0)) :: Lh) ++ nodesH (A ++ B))) w8 :=
    St.perm hS (.cons _ (.cons _ (.cons _ (.cons _ kCi))))
   refine jq ⟨?_⟩
   refine (height_spec hv hhr htn hb3 (hS.part (L := (b, .cells ⟨memC (A ++ B).length (szsE l) (A ++ B) ht hn hc turn⟩ T_mem_Table (0, 0)) :: Lh))).mono ?_
   rintro _ w9 ⟨h, turn', rfl, hh1, hh8, htn', hS'⟩
   have hS := hS.call (L := (b, .cells ⟨memC (A ++ B).length (szsE l) (A ++ B) ht hn hc turn⟩ T_mem_Table (0, 0)) :: Lh) hS'
   refine jq ⟨?_⟩
   have hS0 : St w T0 ((b8, .cells ⟨nodeC (nodeK b8 y 0) B⟩ T_mem_node (0, 0)) :: (b6, .cells ⟨outs8 b 0 A⟩ T_8_Ptr_mem_node (0, 0)) :: (b5, .cells ⟨[Str x.k, .int .i64 x.s, .bool x.d, Str v]⟩ T_api_Entry (0, 0)) ::
     (b, .cells ⟨memC (A ++ B).length (szsE l) (A ++ nodeK b8 y 0 :: B) ht hn hc turn'⟩ T_mem_Table (0, 0)) :: ((nodesA A (nodeK b8 y 0 :: B) ++ nodesH B) ++ Lh)) w9 := by
    rw [← nodesA_zero, ← nodesH_app, ← memC_zero, ← nodeC_zero, hey]
    exact St.perm hS (.cons _ (.cons _ (.cons _ (.cons _ kCi))))
   clear hS
   refine SemW.loop (fun k : Nat => [(0, ptr b), (10, .slice (some ⟨g, off, none⟩) 1 c), (11, .int .i64 1), (12, .int .i64 (0 : Nat)), (5, ptr b5), (6, ptr b6), (8, ptr b8), (66, .int .i64 h), (67, .int .i64 k)])
    (fun k w' => k ≤ h ∧ St w T0 ((b8, .cells ⟨nodeC (nodeK b8 y k) B⟩ T_mem_node (0, 0)) :: (b6, .cells ⟨outs8 b 0 A⟩ T_8_Ptr_mem_node (0, 0)) :: (b5, .cells ⟨[Str x.k, .int .i64 x.s, .bool x.d, Str v]⟩ T_api_Entry (0, 0)) ::
     (b, .cells ⟨memC (A ++ B).length (szsE l) (A ++ nodeK b8 y k :: B) ht hn hc turn'⟩ T_mem_Table (0, 0)) :: ((nodesA A (nodeK b8 y k :: B) ++ nodesH B) ++ Lh)) w') (fun k => h - k) 0
    ⟨rfl, rfl, rfl, rfl, rfl, rfl, rfl, rfl, rfl, trivial⟩ ⟨kAg _, hS0⟩ ?_
   clear hS0
   rintro k w10 ⟨hk, hS⟩
   by_cases hkh : k < h
   ·have hk8 : k < 8 := by omega
    obtain ⟨pv, hpv⟩ := nxt_ptr k B
    rcases cut_last k A with hn0 | ⟨A0, y0, A2, hA0, hy0, hn0⟩
    ·have hlp : lastP (headV b) k A = .pointer (some ⟨b, 2, none⟩) := lastP_none _ _ hn0
     have hnx : nxt k (A ++ nodeK b8 y k :: B) = nxt k B := by rw [nxt_miss hn0, nxtK_old]
     (repeat (refine jt ⟨?_⟩; refine hS.st rfl rfl ?_; intro _ hS)); refine jt ⟨?_⟩
     refine SemW.draw tblOk mixed (fun w' => St w _ _ w') [13] [0, 1, 2, 3, 4, 5, 6, 7, 8, 9, 10, 11, 12, 13] (by kernel_rfl) hS.drew ?_
     have hS := hS.drew
     refine jr ⟨?_⟩
     refine hS.ldC (v := lastP (headV b) k A) (by rw [show 0 + ((k : Int)).toNat * 1 = k by omega]; exact outs8_get b A k hk8) ?_
     rw [hlp]
     refine jr ⟨?_⟩
     refine hS.ldC (v := .pointer pv) (by rw [show 2 + 4 + ((k : Int)).toNat * 1 = 2 + (4 + k) by omega, memC_get _ _ _ _ _ _ _ k hk8, hnx, hpv]) ?_
     refine jr ⟨?_⟩
     refine hS.stI (off := 0 + 4 + ((k : Int)).toNat * 1) (l := nodeC (nodeK b8 y k) B) (by rfl) (by rw [nodeC_len]; omega) ?_
     intro w11 hS
     have hS := hS
     rw [show 0 + 4 + ((k : Int)).toNat * 1 = 4 + k by omega, ← hpv, nodeK_set b8 y k hk8 B] at hS
     refine jq ⟨?_⟩
     refine hS.ld (v := lastP (headV b) k A) (by rw [show 0 + ((k : Int)).toNat * 1 = k by omega]; exact outs8_get b A k hk8) ?_
     rw [hlp]
     refine jq ⟨?_⟩
     refine hS.stI (off := 2 + 4 + ((k : Int)).toNat * 1) (l := memC (A ++ B).length (szsE l) (A ++ nodeK b8 y k :: B) ht hn hc turn') (by rfl) (by rw [memC_len]; omega) ?_
     intro w12 hS
     have hS := hS
     rw [show 2 + 4 + ((k : Int)).toNat * 1 = 2 + (4 + k) by omega, head_set hk8 hn0, nodesK_none b8 y B hn0] at hS
     refine jq ⟨?_⟩
     exact ⟨k + 1, ⟨rfl, rfl, rfl, rfl, rfl, rfl, rfl, rfl, rfl, trivial⟩, ⟨by omega, hS⟩, by omega⟩
    ·have hlp : lastP (headV b) k A = .pointer (some ⟨y0.b, 0, none⟩) := by
      rw [hA0, lastP_app]
      show lastP (if k < y0.h then ptr y0.b else _) k A2 = _
      rw [if_pos hy0, lastP_none _ _ hn0]
     have hcl : cellN y0.h (A2 ++ nodeK b8 y k :: B) k = nxt k B := by
      unfold cellN; rw [if_pos hy0, nxt_miss hn0, nxtK_old]
     have hNA : ∀ R, nodesA A R = nodesA A0 (y0 :: A2 ++ R) ++ ((y0.b, .cells ⟨nodeC y0 (A2 ++ R)⟩ T_mem_node (0, 0)) :: nodesA A2 R) := fun R => by rw [hA0, nodesA_app]; rfl
     have hS := hS
     rw [hNA] at hS
     (repeat (refine jt ⟨?_⟩; refine hS.st rfl rfl ?_; intro _ hS)); refine jt ⟨?_⟩
     refine SemW.draw tblOk mixed (fun w' => St w _ _ w') [13] [0, 1, 2, 3, 4, 5, 6, 7, 8, 9, 10, 11, 12, 13] (by kernel_rfl) hS.drew ?_
     have hS := hS.drew
     refine jr ⟨?_⟩
     refine hS.ldC (v := lastP (headV b) k A) (by rw [show 0 + ((k : Int)).toNat * 1 = k by omega]; exact outs8_get b A k hk8) ?_
     rw [hlp]
     refine jr ⟨?_⟩
     refine hS.ldC (v := .pointer pv) (by rw [show 0 + 4 + ((k : Int)).toNat * 1 = 4 + k by omega, nodeC_get _ _ k hk8, hcl, hpv]) ?_
     refine jr ⟨?_⟩
     refine hS.stI (off := 0 + 4 + ((k : Int)).toNat * 1) (l := nodeC (nodeK b8 y k) B) (by rfl) (by rw [nodeC_len]; omega) ?_
     intro w11 hS
     have hS := hS
     rw [show 0 + 4 + ((k : Int)).toNat * 1 = 4 + k by omega, ← hpv, nodeK_set b8 y k hk8 B] at hS
     refine jq ⟨?_⟩
     refine hS.ld (v := lastP (headV b) k A) (by rw [show 0 + ((k : Int)).toNat * 1 = k by omega]; exact outs8_get b A k hk8) ?_
     rw [hlp]
     refine jq ⟨?_⟩
     refine hS.stI (off := 0 + 4 + ((k : Int)).toNat * 1) (l := nodeC y0 (A2 ++ nodeK b8 y k :: B)) (by rfl) (by rw [nodeC_len]; omega) ?_
     intro w12 hS
     have hS := hS
     rw [show 0 + 4 + ((k : Int)).toNat * 1 = 4 + k by omega, prev_set hk8 hy0 hn0, nodesK_none b8 y B hn0, nodesK_same (A := A0) b8 y B (y0 :: A2) (.inr ⟨y0, kAt, hy0⟩), mem_same ⟨y0, by rw [hA0]; simp, hy0⟩] at hS
     refine jq ⟨?_⟩
     exact ⟨k + 1, ⟨rfl, rfl, rfl, rfl, rfl, rfl, rfl, rfl, rfl, trivial⟩, ⟨by omega, by rw [hNA]; exact hS⟩, by omega⟩
   ·obtain rfl : k = h := by omega
    have hll : (A ++ B).length = l.length := by rw [← hl, kAv]
    have hsz : szsE (insE y l) = szsE l + x.k.length + v.length := by
     have e1 : szsE l = szsE (A.map (·.e)) + szsE (B.map (·.e)) := by rw [← hl, kAi, szsE_app]
     have e3 : szE y = y.k.length + y.v.length := rfl
     have e2 : szsE (insE y l) = szsE (A.map (·.e)) + (szE y + szsE (B.map (·.e))) := by
      rw [hins, szsE_app]
      congr 1
      cases B with
      |nil => simp [szsE]
      |cons z B =>
       have := hns z (by simp)
       simp only [kAh]
       rw [if_neg (fun h => this ⟨h.1.trans hck.1.symm, h.2.trans hck.2.1.symm⟩)]
       simp [szsE]
     rw [hyv, hck.1] at e3
     omega
    (repeat (refine jt ⟨?_⟩; refine hS.st rfl rfl ?_; intro _ hS)); refine jt ⟨?_⟩
    refine SemW.draw tblOk mixed (fun w' => St w _ _ w') [16] [0, 1, 2, 3, 4, 5, 6, 7, 8, 9, 10, 11, 12, 13, 14, 15, 16] (by kernel_rfl) hS.drew ?_
    have hS := hS.drew
    refine jr ⟨?_⟩
    refine hS.st rfl rfl ?_
    intro w11 hS
    refine jq ⟨?_⟩
    have e6 : (szsE l : Int) + ((x.k.length : Int) + (v.length : Int)) = ((szsE (insE y l) : Nat) : Int) := by omega
    have e7 : (((A ++ B).length : Nat) : Int) + 1 = (((A ++ nodeK b8 y k :: B).length : Nat) : Int) := by simp; omega
    have hS2 : St w T0 ((b8, .cells ⟨nodeC (nodeK b8 y k) B⟩ T_mem_node (0, 0)) :: (b6, .cells ⟨outs8 b 0 A⟩ T_8_Ptr_mem_node (0, 0)) :: (b5, .cells ⟨[Str x.k, .int .i64 x.s, .bool x.d, Str v]⟩ T_api_Entry (0, 0)) ::
     (b, .cells ⟨memC ((((A ++ B).length : Nat) : Int) + 1) ((szsE l : Int) + ((x.k.length : Int) + (v.length : Int))) (A ++ nodeK b8 y k :: B) ht hn hc turn'⟩ T_mem_Table (0, 0)) :: ((nodesA A (nodeK b8 y k :: B) ++ nodesH B) ++ Lh)) w11 := hS
    rw [e6, e7] at hS2
    have hS3 := hS2.sub (List.Sublist.cons_cons _ ((kAb _ _).trans (kAb _ _)))
    refine ⟨1, ⟨rfl, rfl, rfl, rfl, trivial⟩, .inr ⟨rfl, _, MemT.mk (A ++ nodeK b8 y k :: B) ?_ ?_ ht hn hc hts Lh hv hhr turn' htn', ?_⟩, by omega⟩
    ·rw [hins, kAi, kAh]
     congr 1
     cases B with
     |nil => rfl
     |cons z B =>
      have := hns z (by simp)
      simp only [kAh]
      rw [if_neg (fun h => this ⟨h.1.trans hck.1.symm, h.2.trans hck.2.1.symm⟩)]
      rfl
    ·intro u hu
     rcases kAl.1 hu with hu | hu
     ·exact hhs u (by simp [hu])
     ·rcases kAf.1 hu with rfl | hu
      ·exact ⟨hh1, hh8⟩
      ·exact hhs u (by simp [hu])
    ·rw [nodesH_app]
     refine St.perm hS3 ?_
     refine (List.Perm.swap _ _ _).trans (.cons _ ?_)
     rw [kAc, kAc]
     exact kBg.symm
end Go.Proofs.YtkgibdhpijdbfaaGreatDoor
namespace Go.Proofs
open Go.Shelf
def Tryz.keys150_ren : Go.Shelf.Ren := ⟨fun | 7 => 150 | 10 => 187 | n => n, fun | 23 => 71 | 26 => 9 | 3 => 124 | 28 => 255 | 0 => 0 | 27 => 254 | 33 => 122 | 4 => 4 | n => n, fun | n => n⟩
theorem Tryz.keys150 : Go.Proofs.SlLaysZ.n7 Tryz.prog Tryz.keys150_ren := {
 mixed := by kernel_rfl
 f7 := ⟨Tryz.f150.name, by decide, Tryz.func150.trans (congrArg some (by kernel_rfl))⟩
 f10 := ⟨Tryz.f187.name, by decide, Tryz.func187.trans (congrArg some (by kernel_rfl))⟩
 t0 := Tryz.underlying0
 a0 := Tryz.isAgg0
 z0 := Tryz.sizeOf0
 v0 := Tryz.zeroValue0
 t4 := Tryz.underlying4
 a4 := Tryz.isAgg4
 z4 := Tryz.sizeOf4
 v4 := Tryz.zeroValue4
 t23 := Tryz.underlying71
 a23 := Tryz.isAgg71
 z23 := Tryz.sizeOf71
 v23 := Tryz.zeroValue71
 t26 := Tryz.underlying9
 a26 := Tryz.isAgg9
 z26 := Tryz.sizeOf9
 v26 := Tryz.zeroValue9
 t27 := Tryz.underlying254
 a27 := Tryz.isAgg254
 z27 := Tryz.sizeOf254
 v27 := Tryz.zeroValue254
 t28 := Tryz.underlying255
 a28 := Tryz.isAgg255
 z28 := Tryz.sizeOf255
 v28 := Tryz.zeroValue255
 t33 := Tryz.underlying122
 a33 := Tryz.isAgg122
 z33 := Tryz.sizeOf122
 v33 := Tryz.zeroValue122 }
def Tryz.sorted149_ren : Go.Shelf.Ren := ⟨fun | 6 => 149 | 8 => 185 | 9 => 186 | 11 => 216 | 13 => 152 | 12 => 217 | 23 => 197 | 24 => 198 | 14 => 234 | 15 => 235 | 16 => 236 | 17 => 237 | 18 => 238 | 19 => 239 | 20 => 240 | 21 => 241 | 22 => 242 | 25 => 253 | 26 => 219 | 27 => 220 | 28 => 254 | 29 => 255 | 30 => 256 | 31 => 260 | n => n, fun | 26 => 9 | 28 => 255 | 24 => 93 | 0 => 0 | 3 => 3 | 37 => 155 | 48 => 235 | 50 => 159 | 4 => 4 | 40 => 293 | 39 => 292 | 45 => 117 | 5 => 5 | 9 => 9 | 51 => 321 | 55 => 324 | 57 => 343 | 58 => 344 | 33 => 122 | n => n, fun | n => n⟩
theorem Tryz.sorted149 : Go.Proofs.SlLaysZ.n6 Tryz.prog Tryz.sorted149_ren := {
 mixed := by kernel_rfl
 f6 := ⟨Tryz.f149.name, by decide, Tryz.func149.trans (congrArg some (by kernel_rfl))⟩
 f8 := ⟨Tryz.f185.name, by decide, Tryz.func185.trans (congrArg some (by kernel_rfl))⟩
 f11 := ⟨Tryz.f216.name, by decide, Tryz.func216.trans (congrArg some (by kernel_rfl))⟩
 t0 := Tryz.underlying0
 a0 := Tryz.isAgg0
 z0 := Tryz.sizeOf0
 v0 := Tryz.zeroValue0
 t24 := Tryz.underlying93
 a24 := Tryz.isAgg93
 z24 := Tryz.sizeOf93
 v24 := Tryz.zeroValue93
 t26 := Tryz.underlying9
 a26 := Tryz.isAgg9
 z26 := Tryz.sizeOf9
 v26 := Tryz.zeroValue9
 t28 := Tryz.underlying255
 a28 := Tryz.isAgg255
 z28 := Tryz.sizeOf255
 v28 := Tryz.zeroValue255
 i26 := by kernel_rfl }
def Tryz.sort186_ren : Go.Shelf.Ren := ⟨fun | 6 => 186 | 8 => 152 | 9 => 217 | 19 => 197 | 20 => 198 | 21 => 234 | 22 => 235 | 23 => 236 | 24 => 237 | 25 => 238 | 26 => 239 | 27 => 240 | 28 => 241 | 29 => 242 | 36 => 253 | 31 => 219 | 32 => 220 | 37 => 254 | 38 => 255 | 39 => 256 | 41 => 260 | n => n, fun | 27 => 93 | 29 => 9 | 3 => 3 | 32 => 155 | 26 => 93 | 0 => 0 | 44 => 235 | 46 => 159 | 4 => 4 | 36 => 293 | 35 => 292 | 41 => 117 | 5 => 5 | 9 => 9 | 53 => 321 | 57 => 324 | 63 => 343 | 64 => 344 | n => n, fun | n => n⟩
theorem Tryz.sort186 : Go.Proofs.SlLaysM.n6 Tryz.prog Tryz.sort186_ren := {
 mixed := by kernel_rfl
 f6 := ⟨Tryz.f186.name, by decide, Tryz.func186.trans (congrArg some (by kernel_rfl))⟩
 f8 := Tryz.func152.trans (congrArg some (by kernel_rfl))
 f9 := ⟨Tryz.f217.name, by decide, Tryz.func217.trans (congrArg some (by kernel_rfl))⟩
 f19 := Tryz.func197.trans (congrArg some (by kernel_rfl))
 f20 := Tryz.func198.trans (congrArg some (by kernel_rfl))
 f21 := ⟨Tryz.f234.name, by decide, Tryz.func234.trans (congrArg some (by kernel_rfl))⟩
 f22 := ⟨Tryz.f235.name, by decide, Tryz.func235.trans (congrArg some (by kernel_rfl))⟩
 f23 := ⟨Tryz.f236.name, by decide, Tryz.func236.trans (congrArg some (by kernel_rfl))⟩
 f24 := ⟨Tryz.f237.name, by decide, Tryz.func237.trans (congrArg some (by kernel_rfl))⟩
 f25 := ⟨Tryz.f238.name, by decide, Tryz.func238.trans (congrArg some (by kernel_rfl))⟩
 f26 := ⟨Tryz.f239.name, by decide, Tryz.func239.trans (congrArg some (by kernel_rfl))⟩
 f27 := ⟨Tryz.f240.name, by decide, Tryz.func240.trans (congrArg some (by kernel_rfl))⟩
 f28 := ⟨Tryz.f241.name, by decide, Tryz.func241.trans (congrArg some (by kernel_rfl))⟩
 f29 := ⟨Tryz.f242.name, by decide, Tryz.func242.trans (congrArg some (by kernel_rfl))⟩
 f31 := Tryz.func219.trans (congrArg some (by kernel_rfl))
 f32 := Tryz.func220.trans (congrArg some (by kernel_rfl))
 f36 := ⟨Tryz.f253.name, by decide, Tryz.func253.trans (congrArg some (by kernel_rfl))⟩
 f37 := ⟨Tryz.f254.name, by decide, Tryz.func254.trans (congrArg some (by kernel_rfl))⟩
 f38 := ⟨Tryz.f255.name, by decide, Tryz.func255.trans (congrArg some (by kernel_rfl))⟩
 f39 := ⟨Tryz.f256.name, by decide, Tryz.func256.trans (congrArg some (by kernel_rfl))⟩
 f41 := ⟨Tryz.f260.name, by decide, Tryz.func260.trans (congrArg some (by kernel_rfl))⟩
 t0 := Tryz.underlying0
 a0 := Tryz.isAgg0
 z0 := Tryz.sizeOf0
 v0 := Tryz.zeroValue0
 t3 := Tryz.underlying3
 a3 := Tryz.isAgg3
 z3 := Tryz.sizeOf3
 v3 := Tryz.zeroValue3
 t4 := Tryz.underlying4
 a4 := Tryz.isAgg4
 z4 := Tryz.sizeOf4
 v4 := Tryz.zeroValue4
 t5 := Tryz.underlying5
 a5 := Tryz.isAgg5
 z5 := Tryz.sizeOf5
 v5 := Tryz.zeroValue5
 t9 := Tryz.underlying9
 a9 := Tryz.isAgg9
 z9 := Tryz.sizeOf9
 v9 := Tryz.zeroValue9
 t26 := Tryz.underlying93
 a26 := Tryz.isAgg93
 z26 := Tryz.sizeOf93
 v26 := Tryz.zeroValue93
 t27 := Tryz.underlying93
 a27 := Tryz.isAgg93
 z27 := Tryz.sizeOf93
 v27 := Tryz.zeroValue93
 t29 := Tryz.underlying9
 a29 := Tryz.isAgg9
 z29 := Tryz.sizeOf9
 v29 := Tryz.zeroValue9
 t32 := Tryz.underlying155
 a32 := Tryz.isAgg155
 z32 := Tryz.sizeOf155
 v32 := Tryz.zeroValue155
 t35 := Tryz.underlying292
 a35 := Tryz.isAgg292
 z35 := Tryz.sizeOf292
 v35 := Tryz.zeroValue292
 t36 := Tryz.underlying293
 a36 := Tryz.isAgg293
 z36 := Tryz.sizeOf293
 v36 := Tryz.zeroValue293
 t41 := Tryz.underlying117
 a41 := Tryz.isAgg117
 z41 := Tryz.sizeOf117
 v41 := Tryz.zeroValue117
 t44 := Tryz.underlying235
 a44 := Tryz.isAgg235
 z44 := Tryz.sizeOf235
 v44 := Tryz.zeroValue235
 t46 := Tryz.underlying159
 a46 := Tryz.isAgg159
 z46 := Tryz.sizeOf159
 v46 := Tryz.zeroValue159
 t53 := Tryz.underlying321
 a53 := Tryz.isAgg321
 z53 := Tryz.sizeOf321
 v53 := Tryz.zeroValue321
 t57 := Tryz.underlying324
 a57 := Tryz.isAgg324
 z57 := Tryz.sizeOf324
 v57 := Tryz.zeroValue324
 t63 := Tryz.underlying343
 a63 := Tryz.isAgg343
 z63 := Tryz.sizeOf343
 v63 := Tryz.zeroValue343
 t64 := Tryz.underlying344
 a64 := Tryz.isAgg344
 z64 := Tryz.sizeOf344
 v64 := Tryz.zeroValue344 }
open Go.RowKit Go.Maps Go.Sort
theorem Tryz.sorts149 (m : Nat) : AnyZ.SortsIn Tryz.prog Tryz.sorted149_ren Fence.wide m :=
 ⟨fun blk off cap ss W hH hblk hsz => callsIn_wide.2 (AnyM.slices_Sort_string Tryz.sort186 blk off cap ss W hH hblk hsz),
  fun p cap W => callsIn_wide.2 (AnyM.slices_Sort_string_none Tryz.sort186 p cap W)⟩
theorem Tryz.mapsKeys (mb : Option Nat) (W : World) : CallsIn Fence.wide 5 Tryz.prog 150 #[.map mb] W fun e w' => e = .returned (.func (.func 187) #[] #[.pointer (some ⟨W.heap.size, 0, none⟩)]) ∧ w' = W.alloc (.cells #[.map mb] 71) :=
 AnyZ.keys_in Tryz.keys150 Fence.wide 5 trivial rfl mb W
set_option maxHeartbeats 1000000 in
theorem Tryz.sortedKeys {H : Type} (b nn : Nat) (D0 : DataW H) (R : Value → Option (DataW H × List MemPlace)) (w : World) (hown : w.ownsMap Tryz.prog 9 R b nn D0) (hmax : Maps.size D0 ≤ maxLen) (hbytes : Maps.size D0 * 16 ≤ 140737488355328) :
  CallsIn Fence.wide 5 Tryz.prog 149 #[.func (.func 187) #[] #[.pointer (some ⟨w.heap.size, 0, none⟩)]] (w.alloc (.cells #[.map (some b)] 71)) fun e w' => ∃ (v : Value) (ss : List (List UInt8)), e = .returned v ∧ ss.Perm (strKeys D0) ∧
   w'.ownsRow (w.alloc (.cells #[.map (some b)] 71)).heap.size 9 1 v ss.length ((ss.mergeSort (fun x y => decide (x ≤ y))).map encStr) ∧ (v = .slice none 0 0 ↔ ss = []) ∧ Below (w.alloc (.cells #[.map (some b)] 71)).heap.size (w.alloc (.cells #[.map (some b)] 71)) w' := by
 have hbl := hown.lt
 have hseq : SeqGives Fence.wide 2 Tryz.prog 187 #[.pointer (some ⟨w.heap.size, 0, none⟩)] encStr (fun ss => ss.Perm (strKeys D0)) (Maps.size D0) (w.alloc (.cells #[.map (some b)] 71)) :=
  AnyZ.keys_gives (ρ := Tryz.keys150_ren) { Tryz.keys150 with } Fence.wide _ trivial rfl (by omega) w.heap.size b nn D0 _ (by simp) (by simp) (by
   obtain ⟨es, clock, hb, Ft, hs, hD⟩ := hown
   exact ⟨es, clock, (Below.heap_alloc _ _ b hbl).trans hb, Ft, hs, hD⟩)
 exact AnyZ.sorted_in Tryz.sorted149 Fence.wide 5 trivial trivial trivial trivial rfl (by omega) (Tryz.sorts149 _) (enters_of Tryz.func186 (by kernel_rfl) rfl) 187 #[.pointer (some ⟨w.heap.size, 0, none⟩)] trivial (enters_of Tryz.func187 (by kernel_rfl) rfl) _ _ hmax hbytes _ hseq
theorem Tryz.callKeys : ∀ (args : Array Value) (w : World), (callFunc 150 args).run Tryz.prog w = .ok (.enter 150 args) w := Tryz.call150
theorem Tryz.callSorted : ∀ (args : Array Value) (w : World), (callFunc 149 args).run Tryz.prog w = .ok (.enter 149 args) w := Tryz.call149
end Go.Proofs
namespace Go.Proofs.YtkgibdhpijdbfaaGreatDoor
open Go Go.Eng Go.Proofs
open Go.RowKit (Below)
abbrev noR : Value → Option (DataW Unit × List MemPlace) := fun _ => some (.nil, [])
theorem rd_str {P : Program} {k : TypeId} (hk : P.underlying k = some .string) {x : MapEntry} {s : Bytes} (hx : x.key = Str s) (hs : s.length ≤ maxLen) : Go.WideElems.rd P k noR x = some (.string s, .nil) := by
 have hsz : (ByteArray.mk ⟨s⟩).size ≤ maxLen := by simpa [ByteArray.size] using hs
 have h1 := Go.WideMaps.keyOf_string_mk hk hsz
 unfold Go.WideElems.rd
 rw [hx]
 show (keyOf P k (.string ⟨⟨s⟩⟩)).bind _ = _
 rw [h1]; rfl
theorem owns_of {α : Type} {P : Program} {k : TypeId} (hk : P.underlying k = some .string) {w : World} {m : Nat} {es : Array MapEntry} {c : Nat} (hm : w.heap[m]? = some (.map es c)) {val : α → Value} {kvs : List (Bytes × α)} (h : MapC Str val es c kvs)
  (hl : kvs.length ≤ maxLen) (hs : ∀ x ∈ kvs, x.1.length ≤ maxLen) :
  ∃ D : DataW Unit, w.ownsMap P k noR m kvs.length D ∧ (strKeys D).Perm (kvs.map (·.1)) ∧ Maps.size D = kvs.length := by
 have hkeys := h.of.keys KEnc.str
 have hlen : es.size = kvs.length := by have := congrArg List.length hkeys; simpa using this
 have hr : ∀ x ∈ es.toList, ∃ s, x.key = Str s ∧ s.length ≤ maxLen := by
  intro x hx
  have : x.key ∈ es.toList.map (·.key) := kAw hx
  rw [hkeys] at this
  obtain ⟨y, hy, hye⟩ := kAm.1 this
  exact ⟨y.1, hye.symm, hs y hy⟩
 have hmap : (es.toList.map (Go.WideElems.rg P k noR)).map (fun p => strOf p.1) = kvs.map (·.1) := by
  have e1 : (es.toList.map (Go.WideElems.rg P k noR)).map (fun p => Str (strOf p.1)) = es.toList.map (·.key) := by
   rw [kBz]
   apply List.map_congr_left
   intro x hx
   obtain ⟨s, hxs, hss⟩ := hr x hx
   simp only [Function.comp_def, Go.WideElems.rg, rd_str hk hxs hss, kBu, strOf, hxs]
  rw [hkeys] at e1
  have inj : ∀ l1 l2 : List Bytes, l1.map Str = l2.map Str → l1 = l2 := by
   intro l1
   induction l1 with
   |nil => intro l2 h; cases l2 with | nil => rfl | cons => simp at h
   |cons a l1 ih =>
    intro l2 h
    cases l2 with
    |nil => simp at h
    |cons b l2 =>
     simp only [kAh, List.cons.injEq] at h
     rw [KEnc.str.inj h.1, ih l2 h.2]
  apply inj
  simp only [kBz, Function.comp_def] at e1 ⊢
  exact e1
 refine ⟨_, ⟨es, c, hm, ⟨by omega, h.st, fun x hx => ?_⟩, by omega, rfl⟩, ?_, ?_⟩
 ·obtain ⟨s, hxs, hss⟩ := hr x hx
  exact ⟨_, rd_str hk hxs hss⟩
 ·show ((List.foldr DataW.insert [] (es.toList.map (Go.WideElems.rg P k noR))).map fun p => strOf p.1).Perm _
  rw [← hmap]
  exact (Go.WideShapes.sorted_perm _).map _
 ·show (List.foldr DataW.insert [] (es.toList.map (Go.WideElems.rg P k noR))).length = _
  rw [(Go.WideShapes.sorted_perm _).length_eq]
  simp [hlen]
abbrev keysF (b : Nat) : Value := .func (.func f_maps_Keys_map_string_vfs_file_string_vfs_file_1) #[] #[.pointer (some ⟨b, 0, none⟩)]
theorem keysCl (mb : Option Nat) (w : World) : Cl Tryz.prog f_maps_Keys_map_string_vfs_file_string_vfs_file [.map mb] w fun v w' => v = keysF w.heap.size ∧ w' = w.alloc (.cells #[.map mb] T_map_string_vfs_file) := by
 refine .inl ⟨Tryz.callKeys _ _, Calls.mono (callsIn_wide.1 (Tryz.mapsKeys mb w)) ?_⟩
 rintro e w' ⟨rfl, rfl⟩
 exact ⟨_, rfl, rfl, rfl⟩
theorem vec_of_owns {e : TypeId} {W w' : World} {v : Value} {n : Nat} {xs : List Value} (h : w'.ownsRow W.heap.size e 1 v n xs) (hb : Below W.heap.size W w') : ∃ a cap Lv, v = .slice a n cap ∧ Vec e 1 a n cap xs Lv ∧ St W [] Lv w' := by
 have hst : ∀ Lv : Heap, (∀ p ∈ Lv, w'.heap[p.1]? = some p.2) → (keys Lv).Nodup → (∀ p ∈ Lv, W.heap.size ≤ p.1) → St W [] Lv w' := fun Lv h1 h2 h3 =>
  ⟨hb.os, hb.tape, hb.output, hb.size, fun b hlt _ => hb.block b hlt, h1, h2, fun p hp hlt => absurd hlt (Nat.not_lt.2 (h3 p hp))⟩
 obtain ⟨hl, ⟨rfl, rfl⟩ | ⟨g, cap, cur, rfl, hg, hcell, hn, _, hsz, htk⟩⟩ := h
 ·have : xs = [] := by cases xs with | nil => rfl | cons => simp at hl
  subst this
  exact ⟨none, 0, [], rfl, Vec.nil, hst [] (by simp) (by simp [keys]) (by simp)⟩
 ·have e1 : cur = ⟨xs ++ cur.toList.drop (n * 1)⟩ := by
   rw [← htk, kAu]
  refine ⟨_, cap, [(g, .cells ⟨xs ++ cur.toList.drop (n * 1)⟩ e (0, 0))], rfl, Vec.row g n cap xs _ hl ?_ hn, hst _ ?_ (by simp [keys]) ?_⟩
  ·have : cur.toList.length = cap * 1 := by simpa using hsz
   rw [kBf]; omega
  ·intro p hp
   rw [kAy] at hp; subst hp
   show w'.heap[g]? = some (.cells ⟨xs ++ cur.toList.drop (n * 1)⟩ e (0, 0))
   rw [hcell, ← e1]
  ·intro p hp
   rw [kAy] at hp; subst hp
   exact hg
theorem sortedCl {α : Type} {w : World} {m : Nat} {es : Array MapEntry} {c : Nat} (hm : w.heap[m]? = some (.map es c)) {val : α → Value} {kvs : List (Bytes × α)} (h : MapC Str val es c kvs) (hl : kvs.length ≤ 1099511627776) (hs : ∀ x ∈ kvs, x.1.length ≤ maxLen) :
  Cl Tryz.prog f_slices_Sorted_string [keysF w.heap.size] (w.alloc (.cells #[.map (some m)] T_map_string_vfs_file)) fun v w' => ∃ (ns : List Bytes) (a : Option Addr) (cap : Nat) (Lv : Heap), ns.Perm (kvs.map (·.1)) ∧ v = .slice a ns.length cap ∧ Vec T_string 1 a ns.length cap (ns.map Str) Lv ∧
   St (w.alloc (.cells #[.map (some m)] T_map_string_vfs_file)) [] Lv w' := by
 have hmx : 1099511627776 ≤ maxLen := by decide
 obtain ⟨D, ho, hp, hsz⟩ := owns_of (k := T_string) (und_of tblOk (t := T_string) rfl) hm h (by omega) hs
 refine .inl ⟨Tryz.callSorted _ _, Calls.mono (callsIn_wide.1 (Tryz.sortedKeys m kvs.length D noR w ho (by rw [hsz]; omega) (by rw [hsz]; omega))) ?_⟩
 rintro e w' ⟨v, ss, rfl, hS, hrow, -, hb⟩
 have hl2 : (ss.mergeSort (fun x y => decide (x ≤ y))).length = ss.length := (List.mergeSort_perm ss _).length_eq
 rw [← hl2] at hrow
 obtain ⟨a, cap, Lv, rfl, hv, hst⟩ := vec_of_owns hrow hb
 exact ⟨_, rfl, _, a, cap, Lv, ((List.mergeSort_perm ss _).trans hS).trans hp, rfl, hv, hst⟩
set_option maxHeartbeats 1000000 in
theorem fnames_spec {w : World} {b : Nat} {m : FSm} {L : Heap} (hF : FSo b m L) (hh : Holds L w) (hl : m.files.length ≤ 1099511627776) (hs : ∀ x ∈ m.files, x.1.length ≤ maxLen) :
  Cl Tryz.prog f_vfs_FS_names [ptr b] w fun v w' => ∃ (ns : List Bytes) (a : Option Addr) (cap : Nat) (Lv : Heap), ns.Perm (m.files.map (·.1)) ∧ v = .slice a ns.length cap ∧ Vec T_string 1 a ns.length cap (ns.map Str) Lv ∧ St w (keys L) (Lv ++ L) w' := by
 have hS := St.enter hh
 obtain ⟨mf, es, c, hes, ft, Lf, hf⟩ := hF
 refine en_vfs_FS_names rfl ?_
 (repeat (refine jt ⟨?_⟩; refine hS.st rfl rfl ?_; intro _ hS)); refine jt ⟨?_⟩
 refine (keysCl _ _).mono ?_
 rintro _ w1 ⟨rfl, rfl⟩
 have hmf := hS.mem (b := mf)
 have hS := hS.alloc (.cells #[.map (some mf)] T_map_string_vfs_file)
 refine jq ⟨?_⟩
 refine (sortedCl hmf hes hl hs).mono ?_
 rintro _ w2 ⟨ns, a, cap, Lv, hp, rfl, hv, hS'⟩
 have hS := hS.callNew hS'
 refine jq ⟨?_⟩
 exact ⟨ns, a, cap, Lv, hp, rfl, hv, hS.sub (List.Sublist.append (List.Sublist.refl _) (kAb _ _))⟩
end Go.Proofs.YtkgibdhpijdbfaaGreatDoor
namespace Go.Proofs.YtkgibdhpijdbfaaGreatDoor
open Go Go.Eng Go.Proofs
set_option maxHeartbeats 2000000 in
theorem Rename_spec {w : World} {b : Nat} {m : FSm} {L : Heap} (hF : FSo b m L) (hh : Holds L w) (x y : Bytes) (h1 : m.armed + 1 ≤ 9223372036854775807) (h2 : m.acts + 1 ≤ 9223372036854775807) :
  Cl Tryz.prog f_vfs_FS_Rename [ptr b, Str x, Str y] w fun v w' => v = .int .i64 (renameM m x y).1 ∧ ∃ L', FSo b (renameM m x y).2 L' ∧ St w (keys L) L' w' := by
 have hS := St.enter hh
 refine en_vfs_FS_Rename rfl ?_
 unfold renameM
 have hS0 := hS
 have hex : ∃ mf es c, ∃ (_ : MapC Str vfV es c m.files), ∃ ft Lf, ∃ (_ : FateMap ft m.fates Lf), L = (b, .cells ⟨[.map ft, .int .i64 m.armed, .int .i64 m.acts, .bool m.off, .map (some mf)]⟩ T_vfs_FS (0, 0)) :: (mf, .map es c) :: Lf := by
  obtain ⟨mf, es, c, hes, ft, Lf, hf⟩ := hF; exact ⟨mf, es, c, hes, ft, Lf, hf, rfl⟩
 obtain ⟨mf, es, c, hes, ft, Lf, hf, hL⟩ := hex
 have hSL := hS
 rw [hL] at hSL
 have hS := hSL
 (repeat (refine jt ⟨?_⟩; refine hS.st rfl rfl ?_; intro _ hS)); refine jt ⟨?_⟩
 have hS := hS0
 by_cases hoff : m.off = true
 ·have hM : (if m.off = false ∧ named y = false then ((4 : Int), m) else if (findM m x).2 ≠ 0 then ((findM m x).2, m) else (if (acted m).off then 7 else 0, if fateOf m = 1 then acted m else { acted m with files := kput y (findM m x).1 (kdel x m.files) })) = (7, m) := by
   have : findM m x = (([], 0), 7) := by unfold findM; rw [hoff]; rfl
   rw [this, hoff]; simp
  rw [hM]
  repeat (refine BrG.eqt hoff ?_; (repeat (refine jt ⟨?_⟩; refine hS.st rfl rfl ?_; intro _ hS)); refine jt ⟨?_⟩)
  refine (find_spec hF hS.holds x).mono ?_
  rw [show findM m x = (([], 0), 7) by unfold findM; rw [hoff]; rfl]
  rintro _ w1 ⟨rfl, hS'⟩
  have hS := hS.call hS'
  refine jq ⟨?_⟩
  refine hS.al ?_
  intro r w2 _ hS
  (repeat (refine jt ⟨?_⟩; refine hS.st rfl rfl ?_; intro _ hS)); refine jt ⟨?_⟩
  exact ⟨rfl, L, hF, hS.sub (kAb _ _)⟩
 ·have hoff' : m.off = false := by simpa using hoff
  repeat (refine BrG.eqf hoff' ?_; (repeat (refine jt ⟨?_⟩; refine hS.st rfl rfl ?_; intro _ hS)); refine jt ⟨?_⟩)
  refine (named_spec y).mono ?_
  rintro _ w1 ⟨rfl, hS'⟩
  have hS := hS.call0 hS'
  cases hn : named y with
  |false =>
   rw [if_pos ⟨hoff', rfl⟩]
   repeat (refine BrG.eqf hoff' ?_; refine jq ⟨?_⟩)
   refine jq ⟨?_⟩
   exact ⟨rfl, L, hF, hS⟩
  |true =>
   rw [if_neg (by simp)]
   repeat (refine BrG.eqf hoff' ?_; refine jq ⟨?_⟩)
   refine jq ⟨?_⟩
   refine (find_spec hF hS.holds x).mono ?_
   rintro _ w2 ⟨rfl, hS'⟩
   have hS := hS.call hS'
   generalize findM m x = z
   obtain ⟨u, e⟩ := z
   refine jq ⟨?_⟩
   refine hS.al ?_
   intro r w3 _ hS
   (repeat (refine jt ⟨?_⟩; refine hS.st rfl rfl ?_; intro _ hS)); refine jt ⟨?_⟩
   by_cases he : e = 0
   ·subst he
    rw [if_neg (by simp)]
    (repeat (refine jt ⟨?_⟩; refine hS.st rfl rfl ?_; intro _ hS)); refine jt ⟨?_⟩
    refine (act_spec hF (hS.part (L := L)) h1 h2).mono ?_
    rintro _ w4 ⟨rfl, L1, hF1, hS'⟩
    have hS := hS.call (L := L) hS'
    generalize keys L = T0 at hS ⊢
    by_cases h4 : fateOf m = 1
    ·rw [if_pos h4]
     (repeat (refine jt ⟨?_⟩; refine hS.st rfl rfl ?_; intro _ hS)); refine jt ⟨?_⟩
     refine (done_spec hF1 (hS.part (L := L1))).mono ?_
     rintro _ w6 ⟨rfl, hS'⟩
     have hS := hS.call (L := L1) hS'
     refine jq ⟨?_⟩
     exact ⟨rfl, _, hF1, hS.sub (kAb _ _)⟩
    ·rw [if_neg h4]
     obtain ⟨mf1, es1, c1, hes1, ft1, Lf1, hf1⟩ := hF1
     generalize hac : (acted m).off = off1 at hS ⊢
     (repeat (refine jt ⟨?_⟩; refine hS.st rfl rfl ?_; intro _ hS)); refine jt ⟨?_⟩
     refine St.mapDel tblOk KEnc.str rfl rfl und_str hS hes1 ?_
     intro es2 c2 w5 hes2 hS
     (repeat (refine jt ⟨?_⟩; refine hS.st rfl rfl ?_; intro _ hS)); refine jt ⟨?_⟩
     refine SemW.draw tblOk mixed (fun w' => St w T0 _ w') [6] [0, 1, 2, 3, 4, 5, 6] (by kernel_rfl) hS.drew ?_
     have hS := hS.drew
     refine jr ⟨?_⟩
     refine St.mapSet tblOk KEnc.str rfl rfl und_str hS (v := u) hes2 ?_
     intro es3 c3 w6 hes3 hS
     have hS := hS.sub (kAb _ _)
     refine jq ⟨?_⟩
     have hF2 := FSo.mk (b := b) (m := { acted m with files := kput y u (kdel x m.files) }) mf1 es3 c3 hes3 ft1 Lf1 hf1
     subst hac
     refine (done_spec hF2 hS.holds).mono ?_
     rintro _ w7 ⟨rfl, hS'⟩
     have hS := hS.call hS'
     refine jq ⟨?_⟩
     exact ⟨rfl, _, hF2, hS⟩
   ·rw [if_pos he]
    (repeat (refine jt ⟨?_⟩; refine hS.st rfl rfl ?_; intro _ hS)); refine jt ⟨?_⟩
    exact ⟨rfl, L, hF, hS.sub (kAb _ _)⟩
theorem FList_spec {w : World} {b A : Nat} {m : FSm} {L : Heap} (hF : FSo b m L) (hh : Holds L w) (hB : FB A m) (hA : A ≤ 1099511627776) :
  Cl Tryz.prog f_vfs_FS_List [ptr b] w fun v w' => (m.off = true ∧ v = .tuple ⟨[.slice none 0 0, .int .i64 7]⟩ ∧ St w (keys L) L w') ∨ (m.off = false ∧ ∃ (ns : List Bytes) (a : Option Addr) (cap : Nat) (Lv : Heap), ns.Perm (m.files.map (·.1)) ∧ v = .tuple ⟨[.slice a ns.length cap, .int .i64 0]⟩ ∧ Vec T_string 1 a ns.length cap (ns.map Str) Lv ∧ St w (keys L) (Lv ++ L) w') := by
 have hS := St.enter hh
 have hmx : 1099511627776 ≤ maxLen := by decide
 refine en_vfs_FS_List rfl ?_
 have hS0 := hS
 have hex : ∃ mf es c, ∃ (_ : MapC Str vfV es c m.files), ∃ ft Lf, ∃ (_ : FateMap ft m.fates Lf), L = (b, .cells ⟨[.map ft, .int .i64 m.armed, .int .i64 m.acts, .bool m.off, .map (some mf)]⟩ T_vfs_FS (0, 0)) :: (mf, .map es c) :: Lf := by
  obtain ⟨mf, es, c, hes, ft, Lf, hf⟩ := hF; exact ⟨mf, es, c, hes, ft, Lf, hf, rfl⟩
 obtain ⟨mf, es, c, hes, ft, Lf, hf, hL⟩ := hex
 have hSL := hS
 rw [hL] at hSL
 have hS := hSL
 (repeat (refine jt ⟨?_⟩; refine hS.st rfl rfl ?_; intro _ hS)); refine jt ⟨?_⟩
 have hS := hS0
 cases hoff : m.off with
 |true =>
  repeat (refine BrG.eqt rfl ?_; (repeat (refine jt ⟨?_⟩; refine hS.st rfl rfl ?_; intro _ hS)); refine jt ⟨?_⟩)
  exact .inl ⟨rfl, rfl, hS⟩
 |false =>
  repeat (refine BrG.eqf rfl ?_; (repeat (refine jt ⟨?_⟩; refine hS.st rfl rfl ?_; intro _ hS)); refine jt ⟨?_⟩)
  refine (fnames_spec hF hS.holds (kBb hB.num hA) (fun x hx => by have := hB.name x hx; omega)).mono ?_
  rintro _ w1 ⟨ns, a, cap, Lv, hp, rfl, hv, hS'⟩
  have hS := hS.call hS'
  refine jq ⟨?_⟩
  exact .inr ⟨rfl, ns, a, cap, Lv, hp, rfl, hv, hS⟩
set_option maxHeartbeats 4000000 in
theorem Rewrite_spec {w : World} {b A : Nat} {m : FSm} {L : Heap} (hF : FSo b m L) (hh : Holds L w) (name : Bytes) {a : Option Addr} {cap : Nat} {ps : List Bytes} (ha : Arr w (keys L) a (ps.map Str)) (hlen : sumLen ps + 8 * ps.length ≤ 1099511627776) (hB : FB A m) (hA : A + 3 ≤ 9223372036854775807) :
  Cl Tryz.prog f_wal_Rewrite [ptr b, Str name, .slice a ps.length cap] w fun v w' => v = .int .i64 (rewriteM m name ps).1 ∧ ∃ L', FSo b (rewriteM m name ps).2 L' ∧ St w (keys L) L' w' := by
 have hS := St.enter hh
 refine en_wal_Rewrite rfl ?_
 unfold rewriteM
 refine jq ⟨?_⟩
 refine (Seal_spec (by omega) (ha.sub (by simp))).mono ?_
 rintro _ w1 ⟨rfl, hS'⟩
 have hS := hS.call0 hS'
 cases hok : okLens ps with
 |false =>
  rw [if_neg (by simp), if_neg (by simp)]
  refine jq ⟨?_⟩
  exact ⟨rfl, L, hF, hS⟩
 |true =>
  rw [if_pos rfl, if_pos rfl]
  have ht : (sealB ps).length ≤ 1099511627776 := by rw [sealB_len]; omega
  generalize sealB ps = t at ht ⊢
  refine jq ⟨?_⟩
  have hd1 := hB.del name
  have hdg := del_gone (n := name) hB.nd
  unfold fileM
  refine (id (Delete_spec hF (hS.holds) name (by have := hB.armed; omega) (by have := hB.acts; omega))).mono ?_
  rintro _ w2 ⟨rfl, L1, hF1, hS'⟩
  have hS := hS.call (L := L) hS'
  generalize deleteM m name = dm at hF1 hd1 hdg ⊢
  obtain ⟨e1, m1⟩ := dm
  simp only at hF1 hd1 hdg ⊢
  by_cases hbad : e1 ≠ 0 ∧ e1 ≠ 5
  ·rw [if_pos hbad]
   obtain ⟨hb0, hb5⟩ := hbad
   (repeat (refine jt ⟨?_⟩; refine hS.st rfl rfl ?_; intro _ hS)); refine jt ⟨?_⟩
   exact ⟨rfl, L1, hF1, hS⟩
  ·rw [if_neg hbad]
   have hok : e1 = 0 ∨ e1 = 5 := by omega
   have hdn := hdg hok
   have ha1 := hd1.app name [t] (by rw [hdn]; simpa using ht)
   by_cases hz : e1 = 0
   ·subst hz
    (repeat (refine jt ⟨?_⟩; refine hS.st rfl rfl ?_; intro _ hS)); refine jt ⟨?_⟩
    skip
    refine hS.al ?_
    intro b2 w3 _ hS
    (repeat (refine jt ⟨?_⟩; refine hS.st rfl rfl ?_; intro _ hS)); refine jt ⟨?_⟩
    refine Cl.mono (Append_spec hF1 (hS.part (L := L1)) name (ps := [t]) (hS.arr (b := b2) (nodup_chunk hS)) (by simp) (by simp) (by rw [hdn]; simp [sumLen]; omega) (by have := hd1.armed; omega) (by have := hd1.acts; omega)) ?_
    rintro _ w4 ⟨rfl, L2, hF2, hS'⟩
    have hS := (hS.call (L := L1) hS').sub (kAb _ _)
    generalize appendM m1 name [t] = am at hF2 ha1 ⊢
    obtain ⟨e2, m2⟩ := am
    simp only at hF2 ha1 ⊢
    by_cases h0 : e2 = 0
    ·subst h0
     rw [if_neg (by simp)]
     (repeat (refine jt ⟨?_⟩; refine hS.st rfl rfl ?_; intro _ hS)); refine jt ⟨?_⟩
     skip
     refine Cl.mono (Sync_spec hF2 (hS.part (L := L2)) name (by have := ha1.armed; omega) (by have := ha1.acts; omega)) ?_
     rintro _ w5 ⟨rfl, L3, hF3, hS'⟩
     have hS := hS.call (L := L2) hS'
     (repeat (refine jt ⟨?_⟩; refine hS.st rfl rfl ?_; intro _ hS)); refine jt ⟨?_⟩
     exact ⟨rfl, L3, hF3, hS⟩
    ·rw [if_pos h0]
     (repeat (refine jt ⟨?_⟩; refine hS.st rfl rfl ?_; intro _ hS)); refine jt ⟨?_⟩
     exact ⟨rfl, L2, hF2, hS⟩
   ·obtain rfl : e1 = 5 := by omega
    (repeat (refine jt ⟨?_⟩; refine hS.st rfl rfl ?_; intro _ hS)); refine jt ⟨?_⟩
    skip
    refine hS.al ?_
    intro b2 w3 _ hS
    (repeat (refine jt ⟨?_⟩; refine hS.st rfl rfl ?_; intro _ hS)); refine jt ⟨?_⟩
    refine Cl.mono (Append_spec hF1 (hS.part (L := L1)) name (ps := [t]) (hS.arr (b := b2) (nodup_chunk hS)) (by simp) (by simp) (by rw [hdn]; simp [sumLen]; omega) (by have := hd1.armed; omega) (by have := hd1.acts; omega)) ?_
    rintro _ w4 ⟨rfl, L2, hF2, hS'⟩
    have hS := (hS.call (L := L1) hS').sub (kAb _ _)
    generalize appendM m1 name [t] = am at hF2 ha1 ⊢
    obtain ⟨e2, m2⟩ := am
    simp only at hF2 ha1 ⊢
    by_cases h0 : e2 = 0
    ·subst h0
     rw [if_neg (by simp)]
     (repeat (refine jt ⟨?_⟩; refine hS.st rfl rfl ?_; intro _ hS)); refine jt ⟨?_⟩
     skip
     refine Cl.mono (Sync_spec hF2 (hS.part (L := L2)) name (by have := ha1.armed; omega) (by have := ha1.acts; omega)) ?_
     rintro _ w5 ⟨rfl, L3, hF3, hS'⟩
     have hS := hS.call (L := L2) hS'
     (repeat (refine jt ⟨?_⟩; refine hS.st rfl rfl ?_; intro _ hS)); refine jt ⟨?_⟩
     exact ⟨rfl, L3, hF3, hS⟩
    ·rw [if_pos h0]
     (repeat (refine jt ⟨?_⟩; refine hS.st rfl rfl ?_; intro _ hS)); refine jt ⟨?_⟩
     exact ⟨rfl, L2, hF2, hS⟩
set_option maxHeartbeats 4000000 in
theorem file_spec {w : World} {sb b A : Nat} {m : FSm} {L : Heap} (hF : FSo b m L) (hh : Holds L w) (hc : w.cell? ⟨sb, 2, none⟩ = some (ptr b)) (hsb : sb ∉ keys L) (name t : Bytes) (ht : t.length ≤ 1099511627776) (hB : FB A m) (hA : A + 3 ≤ 9223372036854775807) :
  Cl Tryz.prog f_store_Store_file [ptr sb, Str name, Str t] w fun v w' => v = .int .i64 (fileM m name t).1 ∧ ∃ L', FSo b (fileM m name t).2 L' ∧ St w (keys L) L' w' := by
 have hS := St.enter hh
 refine en_store_Store_file rfl ?_
 refine jq ⟨?_⟩
 refine hS.ldOld hsb hc ?_
 refine jq ⟨?_⟩
 have hd1 := hB.del name
 have hdg := del_gone (n := name) hB.nd
 unfold fileM
 refine (id (Delete_spec hF (hS.holds) name (by have := hB.armed; omega) (by have := hB.acts; omega))).mono ?_
 rintro _ w2 ⟨rfl, L1, hF1, hS'⟩
 have hS := hS.call (L := L) hS'
 generalize deleteM m name = dm at hF1 hd1 hdg ⊢
 obtain ⟨e1, m1⟩ := dm
 simp only at hF1 hd1 hdg ⊢
 by_cases hbad : e1 ≠ 0 ∧ e1 ≠ 5
 ·rw [if_pos hbad]
  obtain ⟨hb0, hb5⟩ := hbad
  (repeat (refine jt ⟨?_⟩; refine hS.st rfl rfl ?_; intro _ hS)); refine jt ⟨?_⟩
  exact ⟨rfl, L1, hF1, hS⟩
 ·rw [if_neg hbad]
  have hok : e1 = 0 ∨ e1 = 5 := by omega
  have hdn := hdg hok
  have ha1 := hd1.app name [t] (by rw [hdn]; simpa using ht)
  by_cases hz : e1 = 0
  ·subst hz
   (repeat (refine jt ⟨?_⟩; refine hS.st rfl rfl ?_; intro _ hS)); refine jt ⟨?_⟩
   (refine hS.ldOld hsb hc ?_; (repeat (refine jt ⟨?_⟩; refine hS.st rfl rfl ?_; intro _ hS)); refine jt ⟨?_⟩)
   refine hS.al ?_
   intro b2 w3 _ hS
   (repeat (refine jt ⟨?_⟩; refine hS.st rfl rfl ?_; intro _ hS)); refine jt ⟨?_⟩
   refine Cl.mono (Append_spec hF1 (hS.part (L := L1)) name (ps := [t]) (hS.arr (b := b2) (nodup_chunk hS)) (by simp) (by simp) (by rw [hdn]; simp [sumLen]; omega) (by have := hd1.armed; omega) (by have := hd1.acts; omega)) ?_
   rintro _ w4 ⟨rfl, L2, hF2, hS'⟩
   have hS := (hS.call (L := L1) hS').sub (kAb _ _)
   generalize appendM m1 name [t] = am at hF2 ha1 ⊢
   obtain ⟨e2, m2⟩ := am
   simp only at hF2 ha1 ⊢
   by_cases h0 : e2 = 0
   ·subst h0
    rw [if_neg (by simp)]
    (repeat (refine jt ⟨?_⟩; refine hS.st rfl rfl ?_; intro _ hS)); refine jt ⟨?_⟩
    (refine hS.ldOld hsb hc ?_; (repeat (refine jt ⟨?_⟩; refine hS.st rfl rfl ?_; intro _ hS)); refine jt ⟨?_⟩)
    refine Cl.mono (Sync_spec hF2 (hS.part (L := L2)) name (by have := ha1.armed; omega) (by have := ha1.acts; omega)) ?_
    rintro _ w5 ⟨rfl, L3, hF3, hS'⟩
    have hS := hS.call (L := L2) hS'
    (repeat (refine jt ⟨?_⟩; refine hS.st rfl rfl ?_; intro _ hS)); refine jt ⟨?_⟩
    exact ⟨rfl, L3, hF3, hS⟩
   ·rw [if_pos h0]
    (repeat (refine jt ⟨?_⟩; refine hS.st rfl rfl ?_; intro _ hS)); refine jt ⟨?_⟩
    exact ⟨rfl, L2, hF2, hS⟩
  ·obtain rfl : e1 = 5 := by omega
   (repeat (refine jt ⟨?_⟩; refine hS.st rfl rfl ?_; intro _ hS)); refine jt ⟨?_⟩
   (refine hS.ldOld hsb hc ?_; (repeat (refine jt ⟨?_⟩; refine hS.st rfl rfl ?_; intro _ hS)); refine jt ⟨?_⟩)
   refine hS.al ?_
   intro b2 w3 _ hS
   (repeat (refine jt ⟨?_⟩; refine hS.st rfl rfl ?_; intro _ hS)); refine jt ⟨?_⟩
   refine Cl.mono (Append_spec hF1 (hS.part (L := L1)) name (ps := [t]) (hS.arr (b := b2) (nodup_chunk hS)) (by simp) (by simp) (by rw [hdn]; simp [sumLen]; omega) (by have := hd1.armed; omega) (by have := hd1.acts; omega)) ?_
   rintro _ w4 ⟨rfl, L2, hF2, hS'⟩
   have hS := (hS.call (L := L1) hS').sub (kAb _ _)
   generalize appendM m1 name [t] = am at hF2 ha1 ⊢
   obtain ⟨e2, m2⟩ := am
   simp only at hF2 ha1 ⊢
   by_cases h0 : e2 = 0
   ·subst h0
    rw [if_neg (by simp)]
    (repeat (refine jt ⟨?_⟩; refine hS.st rfl rfl ?_; intro _ hS)); refine jt ⟨?_⟩
    (refine hS.ldOld hsb hc ?_; (repeat (refine jt ⟨?_⟩; refine hS.st rfl rfl ?_; intro _ hS)); refine jt ⟨?_⟩)
    refine Cl.mono (Sync_spec hF2 (hS.part (L := L2)) name (by have := ha1.armed; omega) (by have := ha1.acts; omega)) ?_
    rintro _ w5 ⟨rfl, L3, hF3, hS'⟩
    have hS := hS.call (L := L2) hS'
    (repeat (refine jt ⟨?_⟩; refine hS.st rfl rfl ?_; intro _ hS)); refine jt ⟨?_⟩
    exact ⟨rfl, L3, hF3, hS⟩
   ·rw [if_pos h0]
    (repeat (refine jt ⟨?_⟩; refine hS.st rfl rfl ?_; intro _ hS)); refine jt ⟨?_⟩
    exact ⟨rfl, L2, hF2, hS⟩
inductive LogP (f : Nat) : Option LogM → Value → Heap → Prop where
 |none : LogP f none (.pointer none) []
 |some (b : Nat) (g : LogM) : LogP f (some g) (ptr b) [(b, logC f g.name g.n g.torn g.dead)]
inductive TabsO : List (Int × Nat) → List (Int × List EntM) → Heap → Prop where
 |nil : TabsO [] [] []
 |cons {n : Int} {tb : Nat} {l : List EntM} {L : Heap} {ks : List (Int × Nat)} {ts : List (Int × List EntM)} {M : Heap} (h : TabO tb l L) (r : TabsO ks ts M) : TabsO ((n, tb) :: ks) ((n, l) :: ts) (L ++ M)
inductive StO (sb f : Nat) (s : StM) (m : FSm) : Heap → Prop where
 |mk (sq : Nat) (es : Array MapEntry) (c : Nat) (hsq : MapC intV intV es c s.seqs) (ha : Option Addr) (hc : Nat) (Lh : Heap) (hh : Vec T_int 1 ha s.hts.length hc (s.hts.map intV) Lh)
   (a : Option Addr) (ca : Nat) (La : Heap) (hv : VersV a ca s.v La) (lv : Value) (Ll : Heap) (hl : LogP f s.list lv Ll) (gv : Value) (Lg : Heap) (hg : LogP f s.log gv Lg)
   (mb : Nat) (Lm : Heap) (hm : MemT mb s.mem s.adds Lm) (tm : Nat) (et : Array MapEntry) (ct : Nat) (ks : List (Int × Nat)) (ht : MapC intV (fun b : Nat => ptr b) et ct ks) (Lt : Heap) (hts : TabsO ks s.tabs Lt) (LF : Heap) (hF : FSo f m LF) :
  StO sb f s m ((sb, .cells ⟨[.int .i64 s.given, .map (some sq), ptr f, .int .i64 s.memMax, .int .i64 s.fan, .slice ha s.hts.length hc, .slice a s.v.files.length ca, .int .i64 s.v.wal, .int .i64 s.v.next, .int .i64 s.v.seq, lv, gv, ptr mb, .map (some tm), .int .i64 s.seq, .bool s.dead]⟩ T_store_Store (0, 0)) :: (sq, .map es c) :: (tm, .map et ct) :: (Lh ++ (La ++ (Ll ++ (Lg ++ (Lm ++ (Lt ++ LF)))))))
theorem TabsO.keys {ks : List (Int × Nat)} {ts : List (Int × List EntM)} {L : Heap} (h : TabsO ks ts L) : ks.map (·.1) = ts.map (·.1) := by
 induction h with
 |nil => rfl
 |cons _ _ ih => simp [ih]
set_option maxHeartbeats 1000000 in
theorem SDown_spec {w : World} {sb f : Nat} {s : StM} {m : FSm} {L : Heap} (hO : StO sb f s m L) (hh : Holds L w) : Cl Tryz.prog f_store_Store_Down [ptr sb] w fun v w' => v = .bool (s.dead || m.off) ∧ St w (keys L) L w' := by
 have hS := St.enter hh
 have hO0 := hO
 have hSL := hS
 obtain ⟨sq, es, c, hsq, ha, hc, Lh, hvh, a, ca, La, hv, lv, Ll, hl, gv, Lg, hg, mb, Lm, hm, tm, et, ct, ks, ht, Lt, hts, LF, hF⟩ := hO
 generalize keys _ = T0 at hS ⊢
 refine en_store_Store_Down rfl ?_
 cases hd : s.dead with
 |true =>
  rw [hd] at hS
  (repeat (refine jt ⟨?_⟩; refine hS.st rfl rfl ?_; intro _ hS)); refine jt ⟨?_⟩
  exact ⟨rfl, hS⟩
 |false =>
  rw [hd] at hS
  (repeat (refine jt ⟨?_⟩; refine hS.st rfl rfl ?_; intro _ hS)); refine jt ⟨?_⟩
  refine Cl.mono (Down_spec hF (hS.part (L := LF))) ?_
  rintro _ w1 ⟨rfl, hS'⟩
  have hS := hS.call (L := LF) hS'
  (repeat (refine jt ⟨?_⟩; refine hS.st rfl rfl ?_; intro _ hS)); refine jt ⟨?_⟩
  exact ⟨rfl, hS⟩
set_option maxHeartbeats 1000000 in
theorem Sdone_spec {w : World} {sb f : Nat} {s : StM} {m : FSm} {L : Heap} (hO : StO sb f s m L) (hh : Holds L w) (e : Int) : Cl Tryz.prog f_store_Store_done [ptr sb, .int .i64 e] w fun v w' => v = .int .i64 (doneM s m e).1 ∧ ∃ L', StO sb f (doneM s m e).2 m L' ∧ St w (keys L) L' w' := by
 have hS := St.enter hh
 have hO0 := hO
 have hSL := hS
 obtain ⟨sq, es, c, hsq, ha, hc, Lh, hvh, a, ca, La, hv, lv, Ll, hl, gv, Lg, hg, mb, Lm, hm, tm, et, ct, ks, ht, Lt, hts, LF, hF⟩ := hO
 generalize keys _ = T0 at hS ⊢
 refine en_store_Store_done rfl ?_
 have hyes : ∀ w', St w T0 _ w' → ∃ L', StO sb f { s with dead := true } m L' ∧ St w T0 L' w' := fun w' h => ⟨_, StO.mk (s := { s with dead := true }) sq es c hsq ha hc Lh hvh a ca La hv lv Ll hl gv Lg hg mb Lm hm tm et ct ks ht Lt hts LF hF, h⟩
 have hno : ∀ w', St w T0 _ w' → ∃ L', StO sb f { s with dead := false } m L' ∧ St w T0 L' w' := fun w' h => ⟨_, StO.mk (s := { s with dead := false }) sq es c hsq ha hc Lh hvh a ca La hv lv Ll hl gv Lg hg mb Lm hm tm et ct ks ht Lt hts LF hF, h⟩
 unfold doneM
 cases hd : s.dead with
 |true =>
  rw [hd] at hS
  rw [if_pos (by simp)]
  (repeat (refine jt ⟨?_⟩; refine hS.st rfl rfl ?_; intro _ hS)); refine jt ⟨?_⟩
  exact ⟨rfl, hyes _ hS⟩
 |false =>
  rw [hd] at hS
  by_cases he : e = 7
  ·rw [if_pos (by simp [he])]
   (repeat (refine jt ⟨?_⟩; refine hS.st rfl rfl ?_; intro _ hS)); refine jt ⟨?_⟩
   exact ⟨rfl, hyes _ hS⟩
  ·(repeat (refine jt ⟨?_⟩; refine hS.st rfl rfl ?_; intro _ hS)); refine jt ⟨?_⟩
   refine Cl.mono (Down_spec hF (hS.part (L := LF))) ?_
   rintro _ w1 ⟨rfl, hS'⟩
   have hS := hS.call (L := LF) hS'
   cases hoff : m.off with
   |true =>
    rw [if_pos (by simp)]
    (repeat (refine jt ⟨?_⟩; refine hS.st rfl rfl ?_; intro _ hS)); refine jt ⟨?_⟩
    exact ⟨rfl, hyes _ hS⟩
   |false =>
    rw [if_neg (by simp [he])]
    (repeat (refine jt ⟨?_⟩; refine hS.st rfl rfl ?_; intro _ hS)); refine jt ⟨?_⟩
    exact ⟨rfl, hno _ hS⟩
end Go.Proofs.YtkgibdhpijdbfaaGreatDoor
namespace Go.Eng
open Go
section
variable {κ α : Type} {P : Program} {T0 : Tbl}
structure MRg (enc : κ → Value) (val : α → Value) (es : Array MapEntry) (seen : Array Nat) (kvs done todo : List (κ × α)) : Prop where
 perm : (done ++ todo).Perm kvs
 left : (leftOf es seen).toList.map (fun e => (e.key, e.val)) = todo.map fun x => (enc x.1, val x.2)
theorem MRg.start {enc : κ → Value} {val : α → Value} {es : Array MapEntry} {c : Nat} {kvs : List (κ × α)} (h : MapC enc val es c kvs) : MRg enc val es #[] kvs [] kvs := by
 refine ⟨List.Perm.refl _, ?_⟩
 have : leftOf es #[] = es := by simp [leftOf]
 rw [this]; exact h.of
theorem left_cut {es : Array MapEntry} {seen : Array Nat} {e : MapEntry} {L1 L2 : List MapEntry} (hn : (es.toList.map (·.born)).Nodup) (h : (leftOf es seen).toList = L1 ++ e :: L2) : (leftOf es (seen.push e.born)).toList = L1 ++ L2 := by
 have h1 : (leftOf es (seen.push e.born)).toList = (leftOf es seen).toList.filter (fun x => !decide (x.born = e.born)) := by
  unfold leftOf
  simp only [Array.toList_filter, List.filter_filter]
  apply List.filter_congr
  intro x _
  simp only [Array.contains_push, Bool.not_or]
  rw [Bool.and_comm]
  congr 1
 have h2 : ((leftOf es seen).toList.map (·.born)).Nodup := by
  unfold leftOf
  simp only [Array.toList_filter]
  exact List.Nodup.sublist (List.Sublist.map _ List.filter_sublist) hn
 rw [h1, h]
 rw [h, kAi, kAh, kBw] at h2
 obtain ⟨_, h3, h4⟩ := h2
 rw [kBq] at h3
 rw [kDh, List.filter_cons]
 simp only [decide_true, Bool.not_true, Bool.false_eq_true, if_false]
 congr 1
 ·rw [List.filter_eq_self]
  intro x hx
  have := h4 x.born (kAw hx) e.born (by simp)
  simpa using this
 ·rw [List.filter_eq_self]
  intro x hx
  have : x.born ≠ e.born := fun he => h3.1 (he ▸ kAw hx)
  simpa using this
theorem map_cut {β γ : Type} {f : β → γ} {g : κ × α → γ} : ∀ {L1 : List β} {e : β} {L2 : List β} {todo : List (κ × α)}, (L1 ++ e :: L2).map f = todo.map g → ∃ A x B, todo = A ++ x :: B ∧ L1.map f = A.map g ∧ f e = g x ∧ L2.map f = B.map g
 |[], e, L2, [], h => by simp at h
 |[], e, L2, x :: B, h => by simp at h; exact ⟨[], x, B, rfl, rfl, h.1, h.2⟩
 |y :: L1, e, L2, [], h => by simp at h
 |y :: L1, e, L2, z :: todo, h => by
  simp only [kBe, kAh, List.cons.injEq] at h
  obtain ⟨A, x, B, h1, h2, h3, h4⟩ := map_cut h.2
  exact ⟨z :: A, x, B, by rw [h1]; rfl, by simp [h.1, h2], h3, h4⟩
variable {w0 w : World} {T : List Nat} {H : Heap}
theorem St.rangeM (hT : TOk P T0) {t kt et : TypeId} {i : TI} (hi : tf T0 t = some i) (hk : i.k = .map kt et) {m : Nat} {es : Array MapEntry} {c : Nat} {F : Obj → Heap} (hS : St w0 T H w) [Slot H m (.map es c) F]
  {K : Value → World → Prop} (h : ∀ it w', w0.heap.size ≤ it → St w0 T ((it, .mapIter (some m) c #[] c) :: H) w' → K (.pointer (some ⟨it, 0, none⟩)) w') : RunG P (Instr.range t (.map (some m))) w K := by
 have hu : P.underlying t = some (.map kt et) := by have := und_of hT hi; rw [hk] at this; exact this
 refine RunG.of (v := .pointer (some ⟨w.heap.size, 0, none⟩)) (w' := w.alloc (.mapIter (some m) c #[] c)) ?_ (h _ _ hS.size (hS.alloc _))
 have hm := hS.mem (b := m)
 simp only [Instr.range, Sem.run_bind, run_underlying hu, Result.andThen_ok, getObj, Sem.run, hm, Sem.run_pure]
 rfl
theorem St.nextM {enc : κ → Value} {val : α → Value} {es : Array MapEntry} {c m it : Nat} {seen : Array Nat} {kvs done todo : List (κ × α)} {ty : TypeId} {F : Obj → Heap} (hS : St w0 T H w) [Slot H it (.mapIter (some m) c seen c) F]
  (hm : w.heap[m]? = some (.map es c)) (hC : MapC enc val es c kvs) (hR : MRg enc val es seen kvs done todo) {K : Value → World → Prop}
  (h0 : todo = [] → K (.tuple ⟨[.bool false]⟩) w)
  (h1 : ∀ A x B e w', todo = A ++ x :: B → MRg enc val es (seen.push e.born) kvs (done ++ [x]) (A ++ B) → e ∈ es.toList → e.key = enc x.1 → e.val = val x.2 →
   St w0 T (F (.mapIter (some m) c (seen.push e.born) c)) w' → K (.tuple ⟨[.bool true, enc x.1, val x.2]⟩) w') : RunG P (Instr.next (.pointer (some ⟨it, 0, none⟩)) false ty) w K := by
 rcases run_next_at (P := P) w ty it m c c seen es c (hS.mem (b := it)) hm hC.st.1 (kAd _) with ⟨hz, hrun⟩ | ⟨e, he, w1, hw1, hrun⟩
 ·refine RunG.of hrun (h0 ?_)
  have := congrArg List.length hR.left
  simp only [kAv, Array.length_toList, hz] at this
  exact kCu this.symm
 ·obtain ⟨L1, L2, hl⟩ := List.append_of_mem he
  have hleft := hR.left
  rw [hl] at hleft
  obtain ⟨A, x, B, h2, h3, h4, h5⟩ := map_cut hleft
  simp only [Prod.mk.injEq] at h4
  have hS1 : St w0 T H w1 := by
   rcases hw1 with rfl | rfl
   ·exact hS
   ·exact hS.drew
  have hS2 : St w0 T (F (.mapIter (some m) c (seen.push e.born) c)) (ChangeMaps.setBlock w1 it (.mapIter (some m) c (seen.push e.born) c)) :=
   hS1.setBlock (b := it) rfl rfl rfl (by simp [ChangeMaps.setBlock]) (fun k hk => by simp [ChangeMaps.setBlock, Array.getElem?_setIfInBounds_ne (Ne.symm hk)]) (by
    have h := (Array.getElem?_eq_some_iff.1 (hS1.mem (b := it))).1
    simp [ChangeMaps.setBlock, h])
  refine RunG.of hrun ?_
  rw [h4.1, h4.2]
  refine h1 A x B e _ h2 ⟨?_, ?_⟩ ?_ h4.1 h4.2 hS2
  ·refine List.Perm.trans ?_ hR.perm
   rw [h2, kAc]
   exact List.Perm.append_left _ (show (x :: (A ++ B)).Perm (A ++ x :: B) from kBg.symm)
  ·rw [left_cut hC.st.2.1 hl, kAi, kAi, h3, h5]
  ·have : e ∈ (leftOf es seen).toList := he
   simp [leftOf] at this ⊢
   exact this.1
theorem St.entryM {enc : κ → Value} {val : α → Value} {es : Array MapEntry} {c m it : Nat} {seen : Array Nat} {kvs : List (κ × α)} {e : MapEntry} {x : κ × α} {F : Obj → Heap} (hS : St w0 T H w) [Slot H it (.mapIter (some m) c (seen.push e.born) c) F]
  (hm : w.heap[m]? = some (.map es c)) (hC : MapC enc val es c kvs) (he : e ∈ es.toList) (h1 : e.key = enc x.1) (h2 : e.val = val x.2) {K : Value → World → Prop} (h : K (.tuple ⟨[enc x.1, val x.2]⟩) w) : RunG P (Instr.entry (.pointer (some ⟨it, 0, none⟩))) w K := by
 refine RunG.of (run_entry_at w it m c seen es c e (hS.mem (b := it)) hm he hC.st.2.1) ?_
 rw [h1, h2]; exact h
end
end Go.Eng
namespace Go.Proofs.YtkgibdhpijdbfaaGreatDoor
open Go Go.Eng Go.Proofs
theorem _root_.Go.Eng.Holds.left {L M : Heap} {w : World} (h : Holds (L ++ M) w) : Holds L w := ((St.enter h).sub (kBk L M)).holds
theorem _root_.Go.Eng.Holds.right {L M : Heap} {w : World} (h : Holds (L ++ M) w) : Holds M w := ((St.enter h).sub (kAj L M)).holds
theorem TabO.read {tb : Nat} {l : List EntM} {L : Heap} (h : TabO tb l L) {w : World} (hh : Holds L w) : ∃ a c, TabR w tb l a c (pieces 8 l).length := by
 obtain ⟨a, c, Lv, hv⟩ := h
 have hS := St.enter hh
 refine ⟨a, c, hS.arr (b := tb) (by simp), hv.arr hS (by simp), hv.cap, ?_⟩
 rcases hv.inv with ⟨h, -⟩ | ⟨g, -, h, -⟩
 ·exact .inl h
 ·exact .inr ⟨g, h⟩
theorem TabsO.read {ks : List (Int × Nat)} {ts : List (Int × List EntM)} {L : Heap} (h : TabsO ks ts L) {w : World} (hh : Holds L w) {x : Int × Nat} (hx : x ∈ ks) : ∃ l, (x.1, l) ∈ ts ∧ ∃ a c nb, TabR w x.2 l a c nb := by
 induction h with
 |nil => cases hx
 |cons ht hr ih =>
  rcases kAf.1 hx with rfl | hx
  ·obtain ⟨a, c, h⟩ := ht.read hh.left
   exact ⟨_, kAt, a, c, _, h⟩
  ·obtain ⟨l, h1, h2⟩ := ih hh.right hx
   exact ⟨l, kAs _ h1, h2⟩
structure Best (cands : List (Option EntM)) (b : Option EntM) : Prop where
 non : b = none → ∀ c ∈ cands, c = none
 mem : ∀ x, b = some x → some x ∈ cands
 top : ∀ x, b = some x → ∀ y, some y ∈ cands → y.s ≤ x.s
theorem Best.one (c : Option EntM) : Best [c] c := ⟨fun h c' hc => by simp at hc; rw [hc, h], fun x h => by simp [h], fun x h y hy => by simp at hy; rw [h] at hy; cases hy; exact kCb _⟩
def pickE (b c : Option EntM) : Option EntM := match c with
 |none => b
 |some y => match b with
  |none => some y
  |some x => if x.s < y.s then some y else some x
theorem Best.snoc {cs : List (Option EntM)} {b c : Option EntM} (h : Best cs b) : Best (cs ++ [c]) (pickE b c) := by
 cases c with
 |none =>
  exact ⟨fun hb c hc => by rcases kAl.1 hc with hc | hc; exact h.non hb c hc; simpa using hc, fun x hx => kBm _ (h.mem x hx), fun x hx y hy => by
   rcases kAl.1 hy with hy | hy
   ·exact h.top x hx y hy
   ·simp at hy⟩
 |some y =>
  cases b with
  |none =>
   refine ⟨fun hb => (by cases hb), fun x hx => by cases hx; simp, fun x hx z hz => ?_⟩
   cases hx
   rcases kAl.1 hz with hz | hz
   ·cases h.non rfl _ hz
   ·simp at hz; subst hz; exact kCb _
  |some u =>
   unfold pickE
   simp only
   split
   ·rename_i hlt
    refine ⟨fun hb => (by cases hb), fun x hx => by cases hx; simp, fun x hx z hz => ?_⟩
    cases hx
    rcases kAl.1 hz with hz | hz
    ·have := h.top u rfl z hz; omega
    ·simp at hz; subst hz; exact kCb _
   ·rename_i hlt
    refine ⟨fun hb => (by cases hb), fun x hx => by cases hx; exact kBm _ (h.mem u rfl), fun x hx z hz => ?_⟩
    cases hx
    rcases kAl.1 hz with hz | hz
    ·exact h.top u rfl z hz
    ·simp at hz; subst hz; omega
theorem Best.of {cs ds : List (Option EntM)} {b : Option EntM} (h : Best cs b) (hp : ∀ c, c ∈ ds ↔ c ∈ cs) : Best ds b :=
 ⟨fun hb c hc => h.non hb c ((hp c).1 hc), fun x hx => (hp _).2 (h.mem x hx), fun x hx y hy => h.top x hx y ((hp _).1 hy)⟩
def zeroN : EntM := ⟨[], 0, false, []⟩
def tabAt (ts : List (Int × List EntM)) (k : Bytes) (at' : Int) (n : Int) : Option EntM := match kget n ts with
 |none => none
 |some l => getE l k at'
theorem _root_.Go.Eng.MapC.nodupK {κ α : Type} [DecidableEq κ] {d : TypeDesc} {enc : κ → Value} {val : α → Value} (hk : KEnc d enc) {es : Array MapEntry} {c : Nat} {kvs : List (κ × α)} (h : MapC enc val es c kvs) : (kvs.map (·.1)).Nodup := by
 have h1 := h.st.2.2
 rw [h.of.keys hk] at h1
 have : (kvs.map fun x => enc x.1) = (kvs.map (·.1)).map enc := by rw [kBz]; rfl
 rw [this] at h1
 exact (List.pairwise_map.1 h1).imp fun h e => h (by rw [e])
structure GI where
 b : Option EntM
 seen : Array Nat
 dn : List (Int × Nat)
 td : List (Int × Nat)
set_option maxHeartbeats 8000000 in
theorem get_spec {w : World} {sb f : Nat} {s : StM} {m : FSm} {L : Heap} (hO : StO sb f s m L) (hh : Holds L w) (k : Bytes) (q : Int) (hk : k.length ≤ 1099511627776) (hr : Rise s.mem) (hf : ∀ x ∈ s.tabs, TabF x.2) :
  Cl Tryz.prog f_store_Store_get [ptr sb, Str k, .int .i64 q] w fun v w' => ∃ b, Best (getE s.mem k q :: s.tabs.map fun x => getE x.2 k q) b ∧ v = .tuple ⟨[Str (b.getD zeroN).v, .bool (b.isSome && !(b.getD zeroN).d)]⟩ ∧ St w (keys L) L w' := by
 have hS := St.enter hh
 obtain ⟨sq, es, c, hsq, ha, hc, Lh, hvh, a, ca, La, hv, lv, Ll, hl, gv, Lg, hg, mb, Lm, hm, tm, et, ct, ks, ht, Lt, hts, LF, hF⟩ := hO
 have hkk := hts.keys
 have hnd : (s.tabs.map (·.1)).Nodup := by rw [← hkk]; exact ht.nodupK KEnc.i64
 generalize hT : keys _ = T0 at hS ⊢
 refine en_store_Store_get rfl ?_
 (repeat (refine jt ⟨?_⟩; refine hS.st rfl rfl ?_; intro _ hS)); refine jt ⟨?_⟩
 refine Cl.mono (MGet_spec hm (hS.part (L := Lm)) hr k q) ?_
 rintro _ w1 ⟨rfl, hS'⟩
 have hS := hS.call (L := Lm) hS'
 have hb0 : Best [getE s.mem k q] (getE s.mem k q) := Best.one _
 generalize getE s.mem k q = g0 at hb0 ⊢
 have hent : ∀ o : Option EntM, entO o = .tuple ⟨[.agg ⟨[Str (o.getD zeroN).k, .int .i64 (o.getD zeroN).s, .bool (o.getD zeroN).d, Str (o.getD zeroN).v]⟩, .bool o.isSome]⟩ := fun o => rfl
 rw [hent]
 (repeat (refine jt ⟨?_⟩; refine hS.st rfl rfl ?_; intro _ hS)); refine jt ⟨?_⟩
 refine hS.al ?_
 intro b8 w2 _ hS
 (repeat (refine jt ⟨?_⟩; refine hS.st rfl rfl ?_; intro _ hS)); refine jt ⟨?_⟩
 refine St.rangeM tblOk rfl rfl hS ?_
 intro it w3 _ hS
 (repeat (refine jt ⟨?_⟩; refine hS.st rfl rfl ?_; intro _ hS)); refine jt ⟨?_⟩
 refine SemW.loop (fun z : GI => [(0, ptr sb), (1, Str k), (2, .int .i64 q), (8, ptr b8), (9, .bool z.b.isSome), (28, ptr it)])
  (fun z w' => MRg intV (fun b : Nat => ptr b) et z.seen ks z.dn z.td ∧ Best (g0 :: z.dn.map fun x => tabAt s.tabs k q x.1) z.b ∧
   St w T0 ((it, .mapIter (some tm) ct z.seen ct) :: (b8, .cells ⟨[Str (z.b.getD zeroN).k, .int .i64 (z.b.getD zeroN).s, .bool (z.b.getD zeroN).d, Str (z.b.getD zeroN).v]⟩ T_api_Entry (0, 0)) :: _) w') (fun z => z.td.length) ⟨g0, #[], [], ks⟩
  ⟨rfl, rfl, rfl, rfl, rfl, rfl, trivial⟩ ⟨MRg.start ht, hb0, hS⟩ ?_
 clear hS hS' hb0
 rintro ⟨b, seen, dn, td⟩ w4 ⟨hR, hB, hS⟩
 simp only at hR hB hS ⊢
 have hS := hS
 (repeat (refine jt ⟨?_⟩; refine hS.st rfl rfl ?_; intro _ hS)); refine jt ⟨?_⟩
 refine St.nextM (kvs := ks) hS (hS.mem (b := tm)) ht hR (fun htd => ?_) (fun A x B e w5 htd hR2 he1 he2 he3 hS => ?_)
 ·(repeat (refine jt ⟨?_⟩; refine hS.st rfl rfl ?_; intro _ hS)); refine jt ⟨?_⟩
  subst htd
  have hp := hR.perm
  rw [kAk] at hp
  have hB2 : Best (g0 :: s.tabs.map fun x => getE x.2 k q) b := by
   refine hB.of fun c => ?_
   rw [kAf, kAf]
   refine or_congr Iff.rfl ?_
   rw [kAm, kAm]
   constructor
   ·rintro ⟨x, hx, rfl⟩
    have h1 : x.1 ∈ ks.map (·.1) := by rw [hkk]; exact kAw hx
    obtain ⟨y, hy, hyx⟩ := kAm.1 h1
    exact ⟨y, hp.mem_iff.2 hy, by unfold tabAt; rw [hyx, kget_of_mem hnd (show (x.1, x.2) ∈ s.tabs from hx)]⟩
   ·rintro ⟨y, hy, rfl⟩
    have h1 : y.1 ∈ s.tabs.map (·.1) := by rw [← hkk]; exact kAw (hp.mem_iff.1 hy)
    obtain ⟨x, hx, hxy⟩ := kAm.1 h1
    exact ⟨x, hx, by unfold tabAt; rw [← hxy, kget_of_mem hnd (show (x.1, x.2) ∈ s.tabs from hx)]⟩
  refine SemW.draw tblOk mixed (fun w' => St w T0 _ w') [] [0, 1, 2, 3, 4, 5, 6, 7, 8, 9] (by kernel_rfl) hS.drew ?_
  have hS := hS.drew
  have hsub := (hS.sub ((kAb _ _).trans (kAb _ _)))
  cases b with
  |none =>
   simp only [kDj]
   refine jr ⟨?_⟩
   exact ⟨none, hB2, rfl, hsub⟩
  |some u =>
   simp only [kBu] at hS
   simp only [Option.isSome_some]
   refine jr ⟨?_⟩
   refine ⟨some u, hB2, ?_, hsub⟩
   rfl
 ·(repeat (refine jt ⟨?_⟩; refine hS.st rfl rfl ?_; intro _ hS)); refine jt ⟨?_⟩
  refine St.entryM (kvs := ks) hS (hS.mem (b := tm)) ht he1 he2 he3 ?_
  (repeat (refine jt ⟨?_⟩; refine hS.st rfl rfl ?_; intro _ hS)); refine jt ⟨?_⟩
  have hx : x ∈ ks := hR.perm.mem_iff.1 (by rw [htd]; simp)
  obtain ⟨l, hxl, a2, c2, nb, hT2⟩ := hts.read (hS.part (L := Lt)) hx
  have htf : TabF l := hf _ hxl
  have hta : tabAt s.tabs k q x.1 = getE l k q := by unfold tabAt; rw [kget_of_mem hnd hxl]
  have hB2 := hB.snoc (c := getE l k q)
  have hB3 : Best (g0 :: (dn ++ [x]).map fun x => tabAt s.tabs k q x.1) (pickE b (getE l k q)) := by
   rw [kAi, kAh, kC, hta]; exact hB2
  refine Cl.mono (Get_T (k := k) (s := q) hT2 htf.rise (by have := htf.len; omega) hk (by have := bloomB_len (namesE l) (by have := namesE_len l; have := htf.len; omega); omega)) ?_
  rintro _ w6 ⟨rfl, hS'⟩
  have hS := hS.call0 hS'
  generalize getE l k q = g1 at hB3 ⊢
  rw [hent]
  (repeat (refine jt ⟨?_⟩; refine hS.st rfl rfl ?_; intro _ hS)); refine jt ⟨?_⟩
  refine hS.al ?_
  intro b12 w7 _ hS
  have hml : (A ++ B).length < td.length := by rw [htd]; simp
  clear hB2 hta htf hT2
  cases g1 with
  |none =>
   simp only [kDj]
   (repeat (refine jt ⟨?_⟩; refine hS.st rfl rfl ?_; intro _ hS)); refine jt ⟨?_⟩
   exact ⟨⟨b, seen.push e.born, dn ++ [x], A ++ B⟩, ⟨rfl, rfl, rfl, rfl, rfl, rfl, trivial⟩, ⟨hR2, hB3, hS.sub (kAb _ _)⟩, hml⟩
  |some y =>
   cases b with
   |none =>
    simp only [kDj, Option.isSome_some, kBu]
    (repeat (refine jt ⟨?_⟩; refine hS.st rfl rfl ?_; intro _ hS)); refine jt ⟨?_⟩
    exact ⟨⟨some y, seen.push e.born, dn ++ [x], A ++ B⟩, ⟨rfl, rfl, rfl, rfl, rfl, rfl, trivial⟩, ⟨hR2, hB3, hS.sub (kAb _ _)⟩, hml⟩
   |some u =>
    simp only [kBu] at hS
    simp only [Option.isSome_some, kBu]
    by_cases hlt : u.s < y.s
    ·have e1 : pickE (some u) (some y) = some y := by unfold pickE; simp only; rw [if_pos hlt]
     rw [e1] at hB3
     (repeat (refine jt ⟨?_⟩; refine hS.st rfl rfl ?_; intro _ hS)); refine jt ⟨?_⟩
     exact ⟨⟨some y, seen.push e.born, dn ++ [x], A ++ B⟩, ⟨rfl, rfl, rfl, rfl, rfl, rfl, trivial⟩, ⟨hR2, hB3, hS.sub (kAb _ _)⟩, hml⟩
    ·have e1 : pickE (some u) (some y) = some u := by unfold pickE; simp only; rw [if_neg hlt]
     rw [e1] at hB3
     (repeat (refine jt ⟨?_⟩; refine hS.st rfl rfl ?_; intro _ hS)); refine jt ⟨?_⟩
     exact ⟨⟨some u, seen.push e.born, dn ++ [x], A ++ B⟩, ⟨rfl, rfl, rfl, rfl, rfl, rfl, trivial⟩, ⟨hR2, hB3, hS.sub (kAb _ _)⟩, hml⟩
def allE (s : StM) : List EntM := s.mem ++ (s.tabs.map (·.2)).flatten
def tabL (ts : List (Int × List EntM)) (n : Int) : List EntM := (kget n ts).getD []
theorem tabL_map : ∀ {ts us : List (Int × List EntM)}, (ts.map (·.1)).Nodup → us.Sublist ts → us.map (fun x => tabL ts x.1) = us.map (·.2) := by
 intro ts us hn hs
 apply List.map_congr_left
 intro x hx
 unfold tabL
 rw [kget_of_mem hn (show (x.1, x.2) ∈ ts from hs.mem hx)]; rfl
theorem tabs_flat {ts : List (Int × List EntM)} {ns : List Int} (hn : (ts.map (·.1)).Nodup) (hp : ns.Perm (ts.map (·.1))) : (ns.map (tabL ts)).flatten.Perm (ts.map (·.2)).flatten := by
 have h1 := (hp.map (tabL ts)).flatten
 rw [kBz] at h1
 have h2 := tabL_map hn (List.Sublist.refl ts)
 have h3 : ts.map (tabL ts ∘ fun x => x.1) = ts.map (·.2) := h2
 rw [h3] at h1
 exact h1
theorem fromE_filter (k : Bytes) : ∀ {l : List EntM}, Rise l → SeqsE l → fromE k 9223372036854775807 l = l.filter fun x => !Op.bytesLess x.k k
 |[], _, _ => rfl
 |x :: l, hr, hs => by
  have hx := hs x kAt
  have hl := kBa.1 hr
  have ih := fromE_filter k hl.2 (fun y hy => hs y (kAs _ hy))
  have e : eltP x k 9223372036854775807 = Op.bytesLess x.k k := by
   unfold eltP
   rw [show decide ((9223372036854775807 : Int) < x.s) = false from decide_eq_false (by have := hx.2; omega)]
   simp
  by_cases hb : Op.bytesLess x.k k = true
  ·rw [List.filter_cons_of_neg (by simp [hb])]
   unfold fromE
   rw [e, if_pos hb]; exact ih
  ·have hb' : Op.bytesLess x.k k = false := by simpa using hb
   unfold fromE
   rw [e, if_neg hb]
   symm
   rw [List.filter_eq_self]
   intro y hy
   rcases kAf.1 hy with rfl | hy
   ·simp [hb']
   ·have h1 := hl.1 y hy
    cases h2 : Op.bytesLess y.k k with
    |false => rfl
    |true =>
     exfalso
     have h3 : Op.bytesLess x.k y.k = true ∨ x.k = y.k := by
      unfold elt eltP at h1
      rw [Bool.or_eq_true, Bool.and_eq_true] at h1
      rcases h1 with h1 | ⟨h1, -⟩
      ·exact .inl h1
      ·exact .inr (of_decide_eq_true h1)
     rcases h3 with h3 | h3
     ·rw [bless_trans _ _ _ h3 h2] at hb'; cases hb'
     ·rw [h3, h2] at hb'; cases hb'
theorem flat_filter (p : EntM → Bool) : ∀ ls : List (List EntM), (ls.map fun l => l.filter p).flatten = ls.flatten.filter p
 |[] => rfl
 |l :: ls => by rw [kAh, kBi, flat_filter p ls, kBi, kDh]
def opOf (x : EntM) : OpM := (x.k, false, x.v)
def belowE (to : Bytes) (x : EntM) : Bool := decide (to = []) || Op.bytesLess x.k to
def rangeE (to : Bytes) (l : List EntM) : List EntM := l.takeWhile (belowE to)
end Go.Proofs.YtkgibdhpijdbfaaGreatDoor
