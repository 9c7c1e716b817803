/- Maps whose keys are strings or integers: look-up, update, delete. -/
import Derived.Test.YtkncpdehgcldbaaDoorVec
namespace Go.Eng
open Go

/-- How keys are written, and that they are compared at once. -/
structure KEnc {κ : Type} [DecidableEq κ] (d : TypeDesc) (enc : κ → Value) : Prop where
  same : ∀ a b, Instr.sameNow d (enc a) (enc b) = some (decide (a = b))
  bits : ∀ a, Instr.sameBits 10000 (enc a) (enc a) = true
  check : ∀ (P : Program) (t : TypeId) (w : World) (e : Bool) (a : κ), P.underlying t = some d → (Instr.checkKey e 10000 t (enc a)).run P w = .ok () w
theorem bytes_beq (a b : List UInt8) : ((ByteArray.mk ⟨a⟩) == (ByteArray.mk ⟨b⟩)) = decide (a = b) := by
  show ((Array.mk a) == (Array.mk b)) = _
  rw [Bool.eq_iff_iff, beq_iff_eq]; simp
theorem KEnc.str : KEnc .string Str := by
  refine ⟨fun a b => ?_, fun a => ?_, fun P t w e a h => ?_⟩
  · simp only [Instr.sameNow]
    congr 1
    exact bytes_beq a b
  · have key : ∀ n, Instr.sameBits (n + 1) (Str a) (Str a) = true := fun n => by simp only [Instr.sameBits]; rw [bytes_beq]; simp
    exact key 9999
  · have key : ∀ n, (Instr.checkKey e (n + 1) t (Str a)).run P w = .ok () w := fun n => by simp [Instr.checkKey, run_underlying h]
    exact key 9999
theorem KEnc.i64 : KEnc (.int .i64) (fun n : Int => Value.int .i64 n) := by
  refine ⟨fun a b => ?_, fun a => ?_, fun P t w e a h => ?_⟩
  · simp [Instr.sameNow]; rfl
  · have key : ∀ n, Instr.sameBits (n + 1) (.int .i64 a) (.int .i64 a) = true := fun n => by simp [Instr.sameBits]
    exact key 9999
  · have key : ∀ n, (Instr.checkKey e (n + 1) t (.int .i64 a)).run P w = .ok () w := fun n => by simp [Instr.checkKey, run_underlying h]
    exact key 9999

section
variable {κ α : Type} [DecidableEq κ]
/-- The entries of a map, in their order. -/
def MapOf (enc : κ → Value) (val : α → Value) (es : Array MapEntry) (kvs : List (κ × α)) : Prop := es.toList.map (fun e => (e.key, e.val)) = kvs.map fun x => (enc x.1, val x.2)
/-- Each entry was born at a time of its own, before the clock; each key stands once. -/
def Stamp (l : List MapEntry) (clock : Nat) : Prop := (∀ x ∈ l, x.born < clock) ∧ (l.map (·.born)).Nodup ∧ (l.map (·.key)).Nodup
structure MapC (enc : κ → Value) (val : α → Value) (es : Array MapEntry) (clock : Nat) (kvs : List (κ × α)) : Prop where
  of : MapOf enc val es kvs
  st : Stamp es.toList clock
theorem Stamp.push {l : List MapEntry} {c : Nat} (h : Stamp l c) {k v : Value} (hk : k ∉ l.map (·.key)) : Stamp (l ++ [{ key := k, val := v, born := c }]) (c + 1) := by
  obtain ⟨h1, h2, h3⟩ := h
  refine ⟨fun x hx => ?_, ?_, ?_⟩
  · rcases List.mem_append.1 hx with hx | hx
    · have := h1 x hx; omega
    · simp at hx; subst hx; show c < c + 1; omega
  · rw [List.map_append, List.nodup_append]
    refine ⟨h2, by simp, fun a ha b hb => ?_⟩
    obtain ⟨x, hx, rfl⟩ := List.mem_map.1 ha
    simp at hb; subst hb
    have := h1 x hx; omega
  · rw [List.map_append, List.nodup_append]
    refine ⟨h3, by simp, fun a ha b hb => ?_⟩
    simp at hb; subst hb
    rintro rfl; exact hk ha
theorem Stamp.modify {l : List MapEntry} {c : Nat} (h : Stamp l c) {j : Nat} {e : MapEntry} {k v : Value} (he : l[j]? = some e) (hk : e.key = k) : Stamp (l.modify j fun e => { e with key := k, val := v }) c := by
  have e1 : (l.modify j fun e => { e with key := k, val := v }).map (·.born) = l.map (·.born) := by
    apply List.ext_getElem?; intro i
    simp only [List.getElem?_map, List.getElem?_modify]
    by_cases hij : j = i
    · subst hij; rw [he]; simp
    · simp [hij]
  have e2 : (l.modify j fun e => { e with key := k, val := v }).map (·.key) = l.map (·.key) := by
    apply List.ext_getElem?; intro i
    simp only [List.getElem?_map, List.getElem?_modify]
    by_cases hij : j = i
    · subst hij; rw [he]; simp [hk]
    · simp [hij]
  obtain ⟨h1, h2, h3⟩ := h
  refine ⟨fun x hx => ?_, by rw [e1]; exact h2, by rw [e2]; exact h3⟩
  have hm : x.born ∈ (l.modify j fun e => { e with key := k, val := v }).map (·.born) := List.mem_map_of_mem hx
  rw [e1] at hm
  obtain ⟨y, hy, hyb⟩ := List.mem_map.1 hm
  rw [← hyb]; exact h1 y hy
theorem Stamp.erase {l : List MapEntry} {c : Nat} (h : Stamp l c) (j : Nat) : Stamp (l.eraseIdx j) c := by
  obtain ⟨h1, h2, h3⟩ := h
  have hs := List.eraseIdx_sublist l j
  exact ⟨fun x hx => h1 x (hs.subset hx), (hs.map _).nodup h2, (hs.map _).nodup h3⟩
def kget (k : κ) : List (κ × α) → Option α
  | [] => none
  | (a, v) :: r => if k = a then some v else kget k r
def kidx (k : κ) : List (κ × α) → Nat → Option (Nat × α)
  | [], _ => none
  | (a, v) :: r, i => if k = a then some (i, v) else kidx k r (i + 1)
def kput (k : κ) (v : α) : List (κ × α) → List (κ × α)
  | [] => [(k, v)]
  | (a, u) :: r => if k = a then (k, v) :: r else (a, u) :: kput k v r
def kdel (k : κ) : List (κ × α) → List (κ × α)
  | [] => []
  | (a, u) :: r => if k = a then r else (a, u) :: kdel k r

theorem kget_kput (a : κ) (v : α) (k : κ) : ∀ m : List (κ × α), kget k (kput a v m) = if k = a then some v else kget k m
  | [] => rfl
  | (b, u) :: r => by
    by_cases h : a = b
    · subst h
      simp only [kput, if_pos, kget]
      split <;> rfl
    · simp only [kput, if_neg h, kget, kget_kput a v k r]
      by_cases h2 : k = b
      · subst h2
        rw [if_pos rfl, if_neg (fun e => h e.symm), if_pos rfl]
      · rw [if_neg h2, if_neg h2]
theorem kidx_get (k : κ) : ∀ (kvs : List (κ × α)) (i : Nat), (kidx k kvs i).map (·.2) = kget k kvs
  | [], _ => rfl
  | (a, v) :: r, i => by
    simp only [kidx, kget]
    split
    · rfl
    · exact kidx_get k r (i + 1)
theorem find_eq {d : TypeDesc} {enc : κ → Value} {val : α → Value} (hk : KEnc d enc) (k : κ) : ∀ (es : List MapEntry) (kvs : List (κ × α)) (i : Nat), es.map (fun e => (e.key, e.val)) = (kvs.map fun x => (enc x.1, val x.2)) →
    Instr.findNow d (enc k) es i = some ((kidx k kvs i).map fun x => (x.1, val x.2))
  | [], [], _, _ => rfl
  | [], _ :: _, _, h => by simp at h
  | _ :: _, [], _, h => by simp at h
  | e :: es, (a, v) :: r, i, h => by
    simp only [List.map_cons, List.cons.injEq, Prod.mk.injEq] at h
    obtain ⟨⟨h1, h2⟩, h3⟩ := h
    simp only [Instr.findNow, h1, hk.same, kidx, h2]
    by_cases hka : k = a
    · simp [hka]
    · simp [hka]; exact find_eq hk k es r (i + 1) h3

variable {P : Program} {T0 : Tbl}
theorem run_findKey {d : TypeDesc} {enc : κ → Value} {val : α → Value} (hk : KEnc d enc) {kt : TypeId} (hu : P.underlying kt = some d) (k : κ) {es : Array MapEntry} {kvs : List (κ × α)} (hes : MapOf enc val es kvs) (w : World) :
    (Instr.findKey kt (enc k) es.toList).run P w = .ok ((kidx k kvs 0).map fun x => (x.1, val x.2)) w := by
  simp [Instr.findKey, run_underlying hu, find_eq hk k es.toList kvs 0 hes]

/-- m[k] or v, ok := m[k], in every world of C. -/
theorem lookupMap (hT : TOk P T0) {t kt et : TypeId} {i ie : TI} {d : TypeDesc} {enc : κ → Value} {val : α → Value} (hk : KEnc d enc) (hi : tf T0 t = some i) (hik : i.k = .map kt et) (hkt : P.underlying kt = some d) (hie : tf T0 et = some ie)
    {C : World → Prop} {m : Nat} {k : κ} {kvs : List (κ × α)} (hm : ∀ w, C w → ∃ es clock, w.heap[m]? = some (.map es clock) ∧ MapOf enc val es kvs) {ok : Bool} {K : Value → Prop}
    (hK : K (match ok with | false => ((kget k kvs).map val).getD ie.zero | true => .tuple ⟨[((kget k kvs).map val).getD ie.zero, .bool (kget k kvs).isSome]⟩)) : RdG P (Instr.lookup t (.map (some m)) (enc k) ok) C K := by
  refine ⟨⟨_, fun w hw => ?_, hK⟩⟩
  obtain ⟨es, clock, h1, h2⟩ := hm w hw
  have hu := und_of hT hi; rw [hik] at hu
  have hu' : P.underlying t = some (.map kt et) := hu
  have hg : (getObj m).run P w = .ok (.map es clock) w := by simp [getObj, Sem.run, h1]
  have hz := zero_of hT hie
  rw [← kidx_get k kvs 0]
  cases hx : kidx k kvs 0 with
  | none =>
    cases ok <;> simp [Instr.lookup, run_underlying hu', hg, hk.check P kt w _ k hkt, run_findKey hk hkt k h2, hx, hz]
  | some x =>
    obtain ⟨j, v⟩ := x
    cases ok <;> simp [Instr.lookup, run_underlying hu', hg, hk.check P kt w _ k hkt, run_findKey hk hkt k h2, hx]
theorem lookupNil (hT : TOk P T0) {t kt et : TypeId} {i ie : TI} {d : TypeDesc} {enc : κ → Value} (hk : KEnc d enc) (hi : tf T0 t = some i) (hik : i.k = .map kt et) (hkt : P.underlying kt = some d) (hie : tf T0 et = some ie)
    {C : World → Prop} {k : κ} {ok : Bool} {K : Value → Prop} (hK : K (match ok with | false => ie.zero | true => .tuple ⟨[ie.zero, .bool false]⟩)) : RdG P (Instr.lookup t (.map none) (enc k) ok) C K := by
  refine ⟨⟨_, fun w _ => ?_, hK⟩⟩
  have hu := und_of hT hi; rw [hik] at hu
  have hu' : P.underlying t = some (.map kt et) := hu
  have hz := zero_of hT hie
  have hf : (Instr.findKey kt (enc k) (#[] : Array MapEntry).toList).run P w = .ok none w := run_findKey (α := Value) (val := id) (kvs := []) hk hkt k (by simp [MapOf]) w
  cases ok <;> simp [Instr.lookup, run_underlying hu', hk.check P kt w _ k hkt, hf, hz]

theorem setObj_run (w : World) (m : Nat) (es es' : Array MapEntry) (c c' : Nat) (h : w.heap[m]? = some (.map es c)) : (setObj m (.map es' c')).run P w = .ok () { w with heap := w.heap.setIfInBounds m (.map es' c') } := by
  simp [setObj, Sem.run, h]

theorem MapOf.put {d : TypeDesc} {enc : κ → Value} {val : α → Value} (_hk : KEnc d enc) {k : κ} {v : α} : ∀ (es : List MapEntry) (kvs : List (κ × α)) (i : Nat), es.map (fun e => (e.key, e.val)) = (kvs.map fun x => (enc x.1, val x.2)) →
    match kidx k kvs i with
    | none => (es ++ [({ key := enc k, val := val v, born := 0 } : MapEntry)]).map (fun (e : MapEntry) => (e.key, e.val)) = ((kput k v kvs).map fun x => (enc x.1, val x.2))
    | some (j, _) => i ≤ j ∧ (es.modify (j - i) fun (e : MapEntry) => { e with key := enc k, val := val v }).map (fun (e : MapEntry) => (e.key, e.val)) = ((kput k v kvs).map fun x => (enc x.1, val x.2)) ∧ ∃ e, es[j - i]? = some e ∧ e.key = enc k
  | [], [], _, _ => rfl
  | [], _ :: _, _, h => by simp at h
  | _ :: _, [], _, h => by simp at h
  | e :: es, (a, u) :: r, i, h => by
    simp only [List.map_cons, List.cons.injEq, Prod.mk.injEq] at h
    obtain ⟨⟨h1, h2⟩, h3⟩ := h
    simp only [kidx, kput]
    by_cases hka : k = a
    · subst hka; simp [h1, h3]
    · rw [if_neg hka, if_neg hka]
      have ih := MapOf.put _hk (k := k) (v := v) es r (i + 1) h3
      cases hx : kidx k r (i + 1) with
      | none =>
        rw [hx] at ih
        simp only at ih ⊢
        simp only [List.map_cons, List.cons_append, h1, h2, ih]
      | some x =>
        obtain ⟨j, y⟩ := x
        rw [hx] at ih
        simp only at ih ⊢
        obtain ⟨h4, h5, h6⟩ := ih
        have e1 : j - i = (j - (i + 1)) + 1 := by omega
        refine ⟨by omega, ?_, ?_⟩
        · rw [e1, List.modify_succ_cons, List.map_cons, h5, h1, h2]; rfl
        · rw [e1]; simpa using h6

theorem KEnc.inj {d : TypeDesc} {enc : κ → Value} (hk : KEnc d enc) {a b : κ} (h : enc a = enc b) : a = b := by
  have h1 := hk.same a b
  rw [← h, hk.same a a] at h1
  simpa using h1
theorem kidx_none {k : κ} : ∀ {kvs : List (κ × α)} {i : Nat}, kidx k kvs i = none → k ∉ kvs.map (·.1)
  | [], _, _ => by simp
  | (a, v) :: r, i, h => by
    simp only [kidx] at h
    by_cases hka : k = a
    · rw [if_pos hka] at h; cases h
    · rw [if_neg hka] at h
      have := kidx_none h
      simp at this ⊢
      exact ⟨hka, this⟩
theorem MapOf.keys {d : TypeDesc} {enc : κ → Value} (_hk : KEnc d enc) {val : α → Value} {es : Array MapEntry} {kvs : List (κ × α)} (h : MapOf enc val es kvs) : es.toList.map (·.key) = kvs.map fun x => enc x.1 := by
  have := congrArg (List.map Prod.fst) h
  simpa [Function.comp_def] using this

/-- m[k] = v. -/
theorem St.mapSet (hT : TOk P T0) {t kt et : TypeId} {i : TI} {d : TypeDesc} {enc : κ → Value} {val : α → Value} (hk : KEnc d enc) (hi : tf T0 t = some i) (hik : i.k = .map kt et) (hkt : P.underlying kt = some d)
    {w0 w : World} {T : List Nat} {H : Heap} {m : Nat} {es : Array MapEntry} {clock : Nat} {F : Obj → Heap} (hS : St w0 T H w) [Slot H m (.map es clock) F] {k : κ} {v : α} {kvs : List (κ × α)} (hesC : MapC enc val es clock kvs)
    {K : Unit → World → Prop} (h : ∀ es' clock' w', MapC enc val es' clock' (kput k v kvs) → St w0 T (F (.map es' clock')) w' → K () w') : RunG P (Instr.mapUpdate t (.map (some m)) (enc k) (val v)) w K := by
  have hes := hesC.of
  have hu := und_of hT hi; rw [hik] at hu
  have hu' : P.underlying t = some (.map kt et) := hu
  have hmem := hS.mem (b := m) (o := .map es clock)
  have hg : (getObj m).run P w = .ok (.map es clock) w := by simp [getObj, Sem.run, hmem]
  have hput := MapOf.put hk (k := k) (v := v) es.toList kvs 0 hes
  have fin : ∀ es' c', St w0 T (F (.map es' c')) { w with heap := w.heap.setIfInBounds m (.map es' c') } := fun es' c' => by
    refine hS.setBlock (b := m) (o := .map es clock) rfl rfl rfl (by simp) (fun j hj => ?_) ?_
    · simp only [Array.getElem?_setIfInBounds]; rw [if_neg (Ne.symm hj)]
    · have hlt := (Array.getElem?_eq_some_iff.1 hmem).1
      simp [hlt]
  cases hx : kidx k kvs 0 with
  | none =>
    rw [hx] at hput
    refine ⟨⟨(), _, ?_, h (es.push { key := enc k, val := val v, born := clock }) (clock + 1) _ ?_ (fin _ _)⟩⟩
    · simp [Instr.mapUpdate, run_underlying hu', hg, hk.check P kt w _ k hkt, run_findKey hk hkt k hes, hx, setObj_run w m es _ clock _ hmem]
    · refine ⟨?_, ?_⟩
      · unfold MapOf; simp only [Array.toList_push]
        simpa using hput
      · simp only [Array.toList_push]
        refine hesC.st.push ?_
        rw [hes.keys hk]
        intro hm
        obtain ⟨y, hy, hye⟩ := List.mem_map.1 hm
        have := hk.inj hye
        exact kidx_none hx (List.mem_map.2 ⟨y, hy, this⟩)
  | some x =>
    obtain ⟨j, y⟩ := x
    rw [hx] at hput
    simp only [Nat.zero_le, true_and, Nat.sub_zero] at hput
    obtain ⟨h1, e, h2, h3⟩ := hput
    refine ⟨⟨(), _, ?_, h (es.modify j fun e => { e with key := enc k, val := val v }) clock _ ?_ (fin _ _)⟩⟩
    · have h2' : es[j]? = some e := by simpa using h2
      simp [Instr.mapUpdate, run_underlying hu', hg, hk.check P kt w _ k hkt, run_findKey hk hkt k hes, hx, h2', h3, Instr.keyThatStays, hk.bits, setObj_run w m es _ clock _ hmem]
    · refine ⟨?_, ?_⟩
      · unfold MapOf; simp only [Array.toList_modify]; exact h1
      · simp only [Array.toList_modify]
        exact hesC.st.modify h2 h3
theorem MapOf.del {enc : κ → Value} {val : α → Value} {k : κ} : ∀ (es : List MapEntry) (kvs : List (κ × α)) (i : Nat), es.map (fun e => (e.key, e.val)) = (kvs.map fun x => (enc x.1, val x.2)) →
    match kidx k kvs i with
    | none => kdel k kvs = kvs
    | some (j, _) => i ≤ j ∧ j - i < es.length ∧ (es.eraseIdx (j - i)).map (fun (e : MapEntry) => (e.key, e.val)) = ((kdel k kvs).map fun x => (enc x.1, val x.2))
  | [], [], _, _ => rfl
  | [], _ :: _, _, h => by simp at h
  | _ :: _, [], _, h => by simp at h
  | e :: es, (a, u) :: r, i, h => by
    simp only [List.map_cons, List.cons.injEq, Prod.mk.injEq] at h
    obtain ⟨⟨h1, h2⟩, h3⟩ := h
    simp only [kidx, kdel]
    by_cases hka : k = a
    · subst hka; simp [h3]
    · rw [if_neg hka, if_neg hka]
      have ih := MapOf.del (k := k) es r (i + 1) h3
      cases hx : kidx k r (i + 1) with
      | none => rw [hx] at ih; simp only at ih ⊢; rw [ih]
      | some x =>
        obtain ⟨j, y⟩ := x
        rw [hx] at ih
        simp only at ih ⊢
        obtain ⟨h4, h5, h6⟩ := ih
        have e1 : j - i = (j - (i + 1)) + 1 := by omega
        refine ⟨by omega, by simp; omega, ?_⟩
        rw [e1, List.eraseIdx_cons_succ, List.map_cons, h6, h1, h2]; rfl

theorem St.mapDel (hT : TOk P T0) {t kt et u ty : TypeId} {i : TI} {d : TypeDesc} {enc : κ → Value} {val : α → Value} (hk : KEnc d enc) (hi : tf T0 t = some i) (hik : i.k = .map kt et) (hkt : P.underlying kt = some d)
    {w0 w : World} {T : List Nat} {H : Heap} {m : Nat} {es : Array MapEntry} {clock : Nat} {F : Obj → Heap} (hS : St w0 T H w) [Slot H m (.map es clock) F] {k : κ} {kvs : List (κ × α)} (hesC : MapC enc val es clock kvs)
    {K : Value → World → Prop} (h : ∀ es' clock' w', MapC enc val es' clock' (kdel k kvs) → St w0 T (F (.map es' clock')) w' → K (.tuple #[]) w') : RunG P (Builtin.delete_ ⟨[t, u]⟩ ty ⟨[.map (some m), enc k]⟩) w K := by
  have hes := hesC.of
  have hu := und_of hT hi; rw [hik] at hu
  have hu' : P.underlying t = some (.map kt et) := hu
  have hmem := hS.mem (b := m) (o := .map es clock)
  have hg : (getObj m).run P w = .ok (.map es clock) w := by simp [getObj, Sem.run, hmem]
  have hdel := MapOf.del (k := k) es.toList kvs 0 hes
  have fin : ∀ es' c', St w0 T (F (.map es' c')) { w with heap := w.heap.setIfInBounds m (.map es' c') } := fun es' c' => by
    refine hS.setBlock (b := m) (o := .map es clock) rfl rfl rfl (by simp) (fun j hj => ?_) ?_
    · simp only [Array.getElem?_setIfInBounds]; rw [if_neg (Ne.symm hj)]
    · have hlt := (Array.getElem?_eq_some_iff.1 hmem).1
      simp [hlt]
  cases hx : kidx k kvs 0 with
  | none =>
    rw [hx] at hdel
    refine ⟨⟨_, _, ?_, h es clock _ (by rw [hdel]; exact hesC) (fin _ _)⟩⟩
    simp [Builtin.delete_, run_underlying hu', hg, hk.check P kt w _ k hkt, run_findKey hk hkt k hes, hx, setObj_run w m es _ clock _ hmem]
  | some x =>
    obtain ⟨j, y⟩ := x
    rw [hx] at hdel
    simp only [Nat.zero_le, true_and, Nat.sub_zero] at hdel
    obtain ⟨h1, h2⟩ := hdel
    have h1' : j < es.size := by simpa using h1
    refine ⟨⟨_, _, ?_, h (es.eraseIdxIfInBounds j) clock _ ?_ (fin _ _)⟩⟩
    · simp [Builtin.delete_, run_underlying hu', hg, hk.check P kt w _ k hkt, run_findKey hk hkt k hes, hx, setObj_run w m es _ clock _ hmem]
    · refine ⟨?_, ?_⟩
      · unfold MapOf; rw [Array.eraseIdxIfInBounds, dif_pos h1', Array.toList_eraseIdx]; exact h2
      · rw [Array.eraseIdxIfInBounds, dif_pos h1', Array.toList_eraseIdx]; exact hesC.st.erase j
end
end Go.Eng
