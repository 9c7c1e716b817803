/- Texts of this claim, one behind the other. -/
import Derived.Test.YtkgibdhpijdbfaaGreatDoorZ0
import Derived.Lib.UnsafeStr
import Derived.Lib.Builder
import Derived.Lib.MakeNoZero
import Derived.Shelf.Strconv.AtoiAll
import Derived.Lib.AtoiErrMem
import Derived.Ground.NamesProg
import Derived.Test.YtkgibdhpijdbfaaGreatDoorProg
import Derived.Shelf.Strconv.Itoa3
import Derived.Lib.LaidTab
import Derived.Lib.AppendIntMem
import Derived.Test.YtkgibdhpijdbfaaGreatDoorRows
import Derived.WalkKit
import Derived.ProofKit
import Derived.OpenShut
import Derived.Carry
import Derived.SliceStrings
import Derived.JoinedCond
import Derived.Deep.Slices
set_option linter.unusedVariables false
set_option linter.unusedSimpArgs false
namespace Go.Eng
open Go
structure KEnc {κ : Type} [DecidableEq κ] (d : TypeDesc) (enc : κ → Value) : Prop where
 same : ∀ a b, Instr.sameNow d (enc a) (enc b) = some (decide (a = b))
 bits : ∀ a, Instr.sameBits 10000 (enc a) (enc a) = true
 check : ∀ (P : Program) (t : TypeId) (w : World) (e : Bool) (a : κ), P.underlying t = some d → (Instr.checkKey e 10000 t (enc a)).run P w = .ok () w
theorem bytes_beq (a b : List UInt8) : ((ByteArray.mk ⟨a⟩) == (ByteArray.mk ⟨b⟩)) = decide (a = b) := by
 show ((Array.mk a) == (Array.mk b)) = _
 rw [Bool.eq_iff_iff, beq_iff_eq]; simp
theorem KEnc.str : KEnc .string Str := by
 refine ⟨fun a b => ?_, fun a => ?_, fun P t w e a h => ?_⟩
 ·simp only [Instr.sameNow]
  congr 1
  exact bytes_beq a b
 ·have key : ∀ n, Instr.sameBits (n + 1) (Str a) (Str a) = true := fun n => by simp only [Instr.sameBits]; rw [bytes_beq]; simp
  exact key 9999
 ·have key : ∀ n, (Instr.checkKey e (n + 1) t (Str a)).run P w = .ok () w := fun n => by simp [Instr.checkKey, run_underlying h]
  exact key 9999
theorem KEnc.i64 : KEnc (.int .i64) (fun n : Int => Value.int .i64 n) := by
 refine ⟨fun a b => ?_, fun a => ?_, fun P t w e a h => ?_⟩
 ·simp [Instr.sameNow]; rfl
 ·have key : ∀ n, Instr.sameBits (n + 1) (.int .i64 a) (.int .i64 a) = true := fun n => by simp [Instr.sameBits]
  exact key 9999
 ·have key : ∀ n, (Instr.checkKey e (n + 1) t (.int .i64 a)).run P w = .ok () w := fun n => by simp [Instr.checkKey, run_underlying h]
  exact key 9999
section
variable {κ α : Type} [DecidableEq κ]
def MapOf (enc : κ → Value) (val : α → Value) (es : Array MapEntry) (kvs : List (κ × α)) : Prop := es.toList.map (fun e => (e.key, e.val)) = kvs.map fun x => (enc x.1, val x.2)
def Stamp (l : List MapEntry) (clock : Nat) : Prop := (∀ x ∈ l, x.born < clock) ∧ (l.map (·.born)).Nodup ∧ (l.map (·.key)).Nodup
structure MapC (enc : κ → Value) (val : α → Value) (es : Array MapEntry) (clock : Nat) (kvs : List (κ × α)) : Prop where
 of : MapOf enc val es kvs
 st : Stamp es.toList clock
theorem Stamp.push {l : List MapEntry} {c : Nat} (h : Stamp l c) {k v : Value} (hk : k ∉ l.map (·.key)) : Stamp (l ++ [{ key := k, val := v, born := c }]) (c + 1) := by
 obtain ⟨h1, h2, h3⟩ := h
 refine ⟨fun x hx => ?_, ?_, ?_⟩
 ·rcases kAl.1 hx with hx | hx
  ·have := h1 x hx; omega
  ·simp at hx; subst hx; show c < c + 1; omega
 ·rw [kAi, kBw]
  refine ⟨h2, by simp, fun a ha b hb => ?_⟩
  obtain ⟨x, hx, rfl⟩ := kAm.1 ha
  simp at hb; subst hb
  have := h1 x hx; omega
 ·rw [kAi, kBw]
  refine ⟨h3, by simp, fun a ha b hb => ?_⟩
  simp at hb; subst hb
  rintro rfl; exact hk ha
theorem Stamp.modify {l : List MapEntry} {c : Nat} (h : Stamp l c) {j : Nat} {e : MapEntry} {k v : Value} (he : l[j]? = some e) (hk : e.key = k) : Stamp (l.modify j fun e => { e with key := k, val := v }) c := by
 have e1 : (l.modify j fun e => { e with key := k, val := v }).map (·.born) = l.map (·.born) := by
  apply List.ext_getElem?; intro i
  simp only [kCo, List.getElem?_modify]
  by_cases hij : j = i
  ·subst hij; rw [he]; simp
  ·simp [hij]
 have e2 : (l.modify j fun e => { e with key := k, val := v }).map (·.key) = l.map (·.key) := by
  apply List.ext_getElem?; intro i
  simp only [kCo, List.getElem?_modify]
  by_cases hij : j = i
  ·subst hij; rw [he]; simp [hk]
  ·simp [hij]
 obtain ⟨h1, h2, h3⟩ := h
 refine ⟨fun x hx => ?_, by rw [e1]; exact h2, by rw [e2]; exact h3⟩
 have hm : x.born ∈ (l.modify j fun e => { e with key := k, val := v }).map (·.born) := kAw hx
 rw [e1] at hm
 obtain ⟨y, hy, hyb⟩ := kAm.1 hm
 rw [← hyb]; exact h1 y hy
theorem Stamp.erase {l : List MapEntry} {c : Nat} (h : Stamp l c) (j : Nat) : Stamp (l.eraseIdx j) c := by
 obtain ⟨h1, h2, h3⟩ := h
 have hs := List.eraseIdx_sublist l j
 exact ⟨fun x hx => h1 x (hs.subset hx), (hs.map _).nodup h2, (hs.map _).nodup h3⟩
def kget (k : κ) : List (κ × α) → Option α
 |[] => none
 |(a, v) :: r => if k = a then some v else kget k r
def kidx (k : κ) : List (κ × α) → Nat → Option (Nat × α)
 |[], _ => none
 |(a, v) :: r, i => if k = a then some (i, v) else kidx k r (i + 1)
def kput (k : κ) (v : α) : List (κ × α) → List (κ × α)
 |[] => [(k, v)]
 |(a, u) :: r => if k = a then (k, v) :: r else (a, u) :: kput k v r
def kdel (k : κ) : List (κ × α) → List (κ × α)
 |[] => []
 |(a, u) :: r => if k = a then r else (a, u) :: kdel k r
theorem kget_kput (a : κ) (v : α) (k : κ) : ∀ m : List (κ × α), kget k (kput a v m) = if k = a then some v else kget k m
 |[] => rfl
 |(b, u) :: r => by
  by_cases h : a = b
  ·subst h
   simp only [kput, if_pos, kget]
   split <;> rfl
  ·simp only [kput, if_neg h, kget, kget_kput a v k r]
   by_cases h2 : k = b
   ·subst h2
    rw [if_pos rfl, if_neg (fun e => h e.symm), if_pos rfl]
   ·rw [if_neg h2, if_neg h2]
theorem kidx_get (k : κ) : ∀ (kvs : List (κ × α)) (i : Nat), (kidx k kvs i).map (·.2) = kget k kvs
 |[], _ => rfl
 |(a, v) :: r, i => by
  simp only [kidx, kget]
  split
  ·rfl
  ·exact kidx_get k r (i + 1)
theorem find_eq {d : TypeDesc} {enc : κ → Value} {val : α → Value} (hk : KEnc d enc) (k : κ) : ∀ (es : List MapEntry) (kvs : List (κ × α)) (i : Nat), es.map (fun e => (e.key, e.val)) = (kvs.map fun x => (enc x.1, val x.2)) →
  Instr.findNow d (enc k) es i = some ((kidx k kvs i).map fun x => (x.1, val x.2))
 |[], [], _, _ => rfl
 |[], _ :: _, _, h => by simp at h
 |_ :: _, [], _, h => by simp at h
 |e :: es, (a, v) :: r, i, h => by
  simp only [kAh, List.cons.injEq, Prod.mk.injEq] at h
  obtain ⟨⟨h1, h2⟩, h3⟩ := h
  simp only [Instr.findNow, h1, hk.same, kidx, h2]
  by_cases hka : k = a
  ·simp [hka]
  ·simp [hka]; exact find_eq hk k es r (i + 1) h3
variable {P : Program} {T0 : Tbl}
theorem run_findKey {d : TypeDesc} {enc : κ → Value} {val : α → Value} (hk : KEnc d enc) {kt : TypeId} (hu : P.underlying kt = some d) (k : κ) {es : Array MapEntry} {kvs : List (κ × α)} (hes : MapOf enc val es kvs) (w : World) :
  (Instr.findKey kt (enc k) es.toList).run P w = .ok ((kidx k kvs 0).map fun x => (x.1, val x.2)) w := by
 simp [Instr.findKey, run_underlying hu, find_eq hk k es.toList kvs 0 hes]
theorem lookupMap (hT : TOk P T0) {t kt et : TypeId} {i ie : TI} {d : TypeDesc} {enc : κ → Value} {val : α → Value} (hk : KEnc d enc) (hi : tf T0 t = some i) (hik : i.k = .map kt et) (hkt : P.underlying kt = some d) (hie : tf T0 et = some ie)
  {C : World → Prop} {m : Nat} {k : κ} {kvs : List (κ × α)} (hm : ∀ w, C w → ∃ es clock, w.heap[m]? = some (.map es clock) ∧ MapOf enc val es kvs) {ok : Bool} {K : Value → Prop}
  (hK : K (match ok with | false => ((kget k kvs).map val).getD ie.zero | true => .tuple ⟨[((kget k kvs).map val).getD ie.zero, .bool (kget k kvs).isSome]⟩)) : RdG P (Instr.lookup t (.map (some m)) (enc k) ok) C K := by
 refine ⟨⟨_, fun w hw => ?_, hK⟩⟩
 obtain ⟨es, clock, h1, h2⟩ := hm w hw
 have hu := und_of hT hi; rw [hik] at hu
 have hu' : P.underlying t = some (.map kt et) := hu
 have hg : (getObj m).run P w = .ok (.map es clock) w := by simp [getObj, Sem.run, h1]
 have hz := zero_of hT hie
 rw [← kidx_get k kvs 0]
 cases hx : kidx k kvs 0 with
 |none =>
  cases ok <;> simp [Instr.lookup, run_underlying hu', hg, hk.check P kt w _ k hkt, run_findKey hk hkt k h2, hx, hz]
 |some x =>
  obtain ⟨j, v⟩ := x
  cases ok <;> simp [Instr.lookup, run_underlying hu', hg, hk.check P kt w _ k hkt, run_findKey hk hkt k h2, hx]
theorem lookupNil (hT : TOk P T0) {t kt et : TypeId} {i ie : TI} {d : TypeDesc} {enc : κ → Value} (hk : KEnc d enc) (hi : tf T0 t = some i) (hik : i.k = .map kt et) (hkt : P.underlying kt = some d) (hie : tf T0 et = some ie)
  {C : World → Prop} {k : κ} {ok : Bool} {K : Value → Prop} (hK : K (match ok with | false => ie.zero | true => .tuple ⟨[ie.zero, .bool false]⟩)) : RdG P (Instr.lookup t (.map none) (enc k) ok) C K := by
 refine ⟨⟨_, fun w _ => ?_, hK⟩⟩
 have hu := und_of hT hi; rw [hik] at hu
 have hu' : P.underlying t = some (.map kt et) := hu
 have hz := zero_of hT hie
 have hf : (Instr.findKey kt (enc k) (#[] : Array MapEntry).toList).run P w = .ok none w := run_findKey (α := Value) (val := id) (kvs := []) hk hkt k (by simp [MapOf]) w
 cases ok <;> simp [Instr.lookup, run_underlying hu', hk.check P kt w _ k hkt, hf, hz]
theorem setObj_run (w : World) (m : Nat) (es es' : Array MapEntry) (c c' : Nat) (h : w.heap[m]? = some (.map es c)) : (setObj m (.map es' c')).run P w = .ok () { w with heap := w.heap.setIfInBounds m (.map es' c') } := by
 simp [setObj, Sem.run, h]
theorem MapOf.put {d : TypeDesc} {enc : κ → Value} {val : α → Value} (_hk : KEnc d enc) {k : κ} {v : α} : ∀ (es : List MapEntry) (kvs : List (κ × α)) (i : Nat), es.map (fun e => (e.key, e.val)) = (kvs.map fun x => (enc x.1, val x.2)) →
  match kidx k kvs i with
  |none => (es ++ [({ key := enc k, val := val v, born := 0 } : MapEntry)]).map (fun (e : MapEntry) => (e.key, e.val)) = ((kput k v kvs).map fun x => (enc x.1, val x.2))
  |some (j, _) => i ≤ j ∧ (es.modify (j - i) fun (e : MapEntry) => { e with key := enc k, val := val v }).map (fun (e : MapEntry) => (e.key, e.val)) = ((kput k v kvs).map fun x => (enc x.1, val x.2)) ∧ ∃ e, es[j - i]? = some e ∧ e.key = enc k
 |[], [], _, _ => rfl
 |[], _ :: _, _, h => by simp at h
 |_ :: _, [], _, h => by simp at h
 |e :: es, (a, u) :: r, i, h => by
  simp only [kAh, List.cons.injEq, Prod.mk.injEq] at h
  obtain ⟨⟨h1, h2⟩, h3⟩ := h
  simp only [kidx, kput]
  by_cases hka : k = a
  ·subst hka; simp [h1, h3]
  ·rw [if_neg hka, if_neg hka]
   have ih := MapOf.put _hk (k := k) (v := v) es r (i + 1) h3
   cases hx : kidx k r (i + 1) with
   |none =>
    rw [hx] at ih
    simp only at ih ⊢
    simp only [kAh, kBe, h1, h2, ih]
   |some x =>
    obtain ⟨j, y⟩ := x
    rw [hx] at ih
    simp only at ih ⊢
    obtain ⟨h4, h5, h6⟩ := ih
    have e1 : j - i = (j - (i + 1)) + 1 := by omega
    refine ⟨by omega, ?_, ?_⟩
    ·rw [e1, List.modify_succ_cons, kAh, h5, h1, h2]; rfl
    ·rw [e1]; simpa using h6
theorem KEnc.inj {d : TypeDesc} {enc : κ → Value} (hk : KEnc d enc) {a b : κ} (h : enc a = enc b) : a = b := by
 have h1 := hk.same a b
 rw [← h, hk.same a a] at h1
 simpa using h1
theorem kidx_none {k : κ} : ∀ {kvs : List (κ × α)} {i : Nat}, kidx k kvs i = none → k ∉ kvs.map (·.1)
 |[], _, _ => by simp
 |(a, v) :: r, i, h => by
  simp only [kidx] at h
  by_cases hka : k = a
  ·rw [if_pos hka] at h; cases h
  ·rw [if_neg hka] at h
   have := kidx_none h
   simp at this ⊢
   exact ⟨hka, this⟩
theorem MapOf.keys {d : TypeDesc} {enc : κ → Value} (_hk : KEnc d enc) {val : α → Value} {es : Array MapEntry} {kvs : List (κ × α)} (h : MapOf enc val es kvs) : es.toList.map (·.key) = kvs.map fun x => enc x.1 := by
 have := congrArg (List.map Prod.fst) h
 simpa [Function.comp_def] using this
theorem St.mapSet (hT : TOk P T0) {t kt et : TypeId} {i : TI} {d : TypeDesc} {enc : κ → Value} {val : α → Value} (hk : KEnc d enc) (hi : tf T0 t = some i) (hik : i.k = .map kt et) (hkt : P.underlying kt = some d)
  {w0 w : World} {T : List Nat} {H : Heap} {m : Nat} {es : Array MapEntry} {clock : Nat} {F : Obj → Heap} (hS : St w0 T H w) [Slot H m (.map es clock) F] {k : κ} {v : α} {kvs : List (κ × α)} (hesC : MapC enc val es clock kvs)
  {K : Unit → World → Prop} (h : ∀ es' clock' w', MapC enc val es' clock' (kput k v kvs) → St w0 T (F (.map es' clock')) w' → K () w') : RunG P (Instr.mapUpdate t (.map (some m)) (enc k) (val v)) w K := by
 have hes := hesC.of
 have hu := und_of hT hi; rw [hik] at hu
 have hu' : P.underlying t = some (.map kt et) := hu
 have hmem := hS.mem (b := m) (o := .map es clock)
 have hg : (getObj m).run P w = .ok (.map es clock) w := by simp [getObj, Sem.run, hmem]
 have hput := MapOf.put hk (k := k) (v := v) es.toList kvs 0 hes
 have fin : ∀ es' c', St w0 T (F (.map es' c')) { w with heap := w.heap.setIfInBounds m (.map es' c') } := fun es' c' => by
  refine hS.setBlock (b := m) (o := .map es clock) rfl rfl rfl (by simp) (fun j hj => ?_) ?_
  ·simp only [Array.getElem?_setIfInBounds]; rw [if_neg (Ne.symm hj)]
  ·have hlt := (Array.getElem?_eq_some_iff.1 hmem).1
   simp [hlt]
 cases hx : kidx k kvs 0 with
 |none =>
  rw [hx] at hput
  refine ⟨⟨(), _, ?_, h (es.push { key := enc k, val := val v, born := clock }) (clock + 1) _ ?_ (fin _ _)⟩⟩
  ·simp [Instr.mapUpdate, run_underlying hu', hg, hk.check P kt w _ k hkt, run_findKey hk hkt k hes, hx, setObj_run w m es _ clock _ hmem]
  ·refine ⟨?_, ?_⟩
   ·unfold MapOf; simp only [Array.toList_push]
    simpa using hput
   ·simp only [Array.toList_push]
    refine hesC.st.push ?_
    rw [hes.keys hk]
    intro hm
    obtain ⟨y, hy, hye⟩ := kAm.1 hm
    have := hk.inj hye
    exact kidx_none hx (kAm.2 ⟨y, hy, this⟩)
 |some x =>
  obtain ⟨j, y⟩ := x
  rw [hx] at hput
  simp only [kAg, true_and, Nat.sub_zero] at hput
  obtain ⟨h1, e, h2, h3⟩ := hput
  refine ⟨⟨(), _, ?_, h (es.modify j fun e => { e with key := enc k, val := val v }) clock _ ?_ (fin _ _)⟩⟩
  ·have h2' : es[j]? = some e := by simpa using h2
   simp [Instr.mapUpdate, run_underlying hu', hg, hk.check P kt w _ k hkt, run_findKey hk hkt k hes, hx, h2', h3, Instr.keyThatStays, hk.bits, setObj_run w m es _ clock _ hmem]
  ·refine ⟨?_, ?_⟩
   ·unfold MapOf; simp only [Array.toList_modify]; exact h1
   ·simp only [Array.toList_modify]
    exact hesC.st.modify h2 h3
theorem MapOf.del {enc : κ → Value} {val : α → Value} {k : κ} : ∀ (es : List MapEntry) (kvs : List (κ × α)) (i : Nat), es.map (fun e => (e.key, e.val)) = (kvs.map fun x => (enc x.1, val x.2)) →
  match kidx k kvs i with
  |none => kdel k kvs = kvs
  |some (j, _) => i ≤ j ∧ j - i < es.length ∧ (es.eraseIdx (j - i)).map (fun (e : MapEntry) => (e.key, e.val)) = ((kdel k kvs).map fun x => (enc x.1, val x.2))
 |[], [], _, _ => rfl
 |[], _ :: _, _, h => by simp at h
 |_ :: _, [], _, h => by simp at h
 |e :: es, (a, u) :: r, i, h => by
  simp only [kAh, List.cons.injEq, Prod.mk.injEq] at h
  obtain ⟨⟨h1, h2⟩, h3⟩ := h
  simp only [kidx, kdel]
  by_cases hka : k = a
  ·subst hka; simp [h3]
  ·rw [if_neg hka, if_neg hka]
   have ih := MapOf.del (k := k) es r (i + 1) h3
   cases hx : kidx k r (i + 1) with
   |none => rw [hx] at ih; simp only at ih ⊢; rw [ih]
   |some x =>
    obtain ⟨j, y⟩ := x
    rw [hx] at ih
    simp only at ih ⊢
    obtain ⟨h4, h5, h6⟩ := ih
    have e1 : j - i = (j - (i + 1)) + 1 := by omega
    refine ⟨by omega, by simp; omega, ?_⟩
    rw [e1, List.eraseIdx_cons_succ, kAh, h6, h1, h2]; rfl
theorem St.mapDel (hT : TOk P T0) {t kt et u ty : TypeId} {i : TI} {d : TypeDesc} {enc : κ → Value} {val : α → Value} (hk : KEnc d enc) (hi : tf T0 t = some i) (hik : i.k = .map kt et) (hkt : P.underlying kt = some d)
  {w0 w : World} {T : List Nat} {H : Heap} {m : Nat} {es : Array MapEntry} {clock : Nat} {F : Obj → Heap} (hS : St w0 T H w) [Slot H m (.map es clock) F] {k : κ} {kvs : List (κ × α)} (hesC : MapC enc val es clock kvs)
  {K : Value → World → Prop} (h : ∀ es' clock' w', MapC enc val es' clock' (kdel k kvs) → St w0 T (F (.map es' clock')) w' → K (.tuple #[]) w') : RunG P (Builtin.delete_ ⟨[t, u]⟩ ty ⟨[.map (some m), enc k]⟩) w K := by
 have hes := hesC.of
 have hu := und_of hT hi; rw [hik] at hu
 have hu' : P.underlying t = some (.map kt et) := hu
 have hmem := hS.mem (b := m) (o := .map es clock)
 have hg : (getObj m).run P w = .ok (.map es clock) w := by simp [getObj, Sem.run, hmem]
 have hdel := MapOf.del (k := k) es.toList kvs 0 hes
 have fin : ∀ es' c', St w0 T (F (.map es' c')) { w with heap := w.heap.setIfInBounds m (.map es' c') } := fun es' c' => by
  refine hS.setBlock (b := m) (o := .map es clock) rfl rfl rfl (by simp) (fun j hj => ?_) ?_
  ·simp only [Array.getElem?_setIfInBounds]; rw [if_neg (Ne.symm hj)]
  ·have hlt := (Array.getElem?_eq_some_iff.1 hmem).1
   simp [hlt]
 cases hx : kidx k kvs 0 with
 |none =>
  rw [hx] at hdel
  refine ⟨⟨_, _, ?_, h es clock _ (by rw [hdel]; exact hesC) (fin _ _)⟩⟩
  simp [Builtin.delete_, run_underlying hu', hg, hk.check P kt w _ k hkt, run_findKey hk hkt k hes, hx, setObj_run w m es _ clock _ hmem]
 |some x =>
  obtain ⟨j, y⟩ := x
  rw [hx] at hdel
  simp only [kAg, true_and, Nat.sub_zero] at hdel
  obtain ⟨h1, h2⟩ := hdel
  have h1' : j < es.size := by simpa using h1
  refine ⟨⟨_, _, ?_, h (es.eraseIdxIfInBounds j) clock _ ?_ (fin _ _)⟩⟩
  ·simp [Builtin.delete_, run_underlying hu', hg, hk.check P kt w _ k hkt, run_findKey hk hkt k hes, hx, setObj_run w m es _ clock _ hmem]
  ·refine ⟨?_, ?_⟩
   ·unfold MapOf; rw [Array.eraseIdxIfInBounds, dif_pos h1', Array.toList_eraseIdx]; exact h2
   ·rw [Array.eraseIdxIfInBounds, dif_pos h1', Array.toList_eraseIdx]; exact hesC.st.erase j
end
end Go.Eng
namespace Go.Proofs.YtkgibdhpijdbfaaGreatDoor
open Go Go.Eng Go.Proofs
abbrev Bytes := List UInt8
def intV (n : Int) : Value := .int .i64 n
theorem ptr_ok {P : Program} {T : Tbl} (hT : TOk P T) {t : TypeId} {i : TI} {e : TypeId} (hi : tf T t = some i) (hk : i.k = .ptr e) : P.underlying t = some (.pointer (P.pointee t)) := by
 have := und_of hT hi
 rw [hk] at this
 have h : P.underlying t = some (.pointer e) := this
 simp [Program.pointee, h]
abbrev ptr (b : Nat) : Value := .pointer (some ⟨b, 0, none⟩)
def sumLen (ps : List (List UInt8)) : Nat := (ps.map List.length).sum
theorem sumLen_take (ps : List (List UInt8)) (k : Nat) (hk : k < ps.length) : sumLen (ps.take (k + 1)) = sumLen (ps.take k) + ps[k].length := by
 unfold sumLen; rw [kAn hk, kAi, kCf]; simp
theorem sumLen_take_le (ps : List (List UInt8)) (k : Nat) : sumLen (ps.take k) ≤ sumLen ps := by
 have h := congrArg (fun l => (l.map List.length).sum) (kAu k ps)
 simp only [kAi, kCf] at h
 unfold sumLen; omega
theorem len_le_sumLen (ps : List (List UInt8)) (k : Nat) (hk : k < ps.length) : ps[k].length ≤ sumLen ps := by
 have h1 := sumLen_take ps k hk
 have h2 := sumLen_take_le ps (k + 1)
 omega
theorem nodup_new {b : Nat} {o : Obj} {H : Heap} {w0 w : World} {T : List Nat} (hS : St w0 T ((b, o) :: H) w) : b ∉ keys H := by
 have := hS.nd; simp only [keys, kAh, kBq] at this; exact this.1
theorem St.arrNew {w0 w : World} {T : List Nat} {H L : Heap} {F : Heap → Heap} (hS : St w0 T H w) [hc : Chunk H L F] {a : Option Addr} {xs : List Value} (h : Arr w0 T a xs) : Arr w (keys L) a xs := fun j x hx => by
 obtain ⟨b, off, h1, h2, h3⟩ := h j x hx
 refine ⟨b, off, h1, fun hm => ?_, hS.oldCell (a := ⟨b, off + j, none⟩) h2 h3⟩
 obtain ⟨A, B, hH, _⟩ := hc.at_
 obtain ⟨p, hp, rfl⟩ := kAm.1 hm
 refine h2 (hS.fresh p (by rw [hH]; simp [hp]) ?_)
 cases hb : w0.heap[p.1]? with
 |none => simp [World.cell?, hb] at h3
 |some o => exact (Array.getElem?_eq_some_iff.1 hb).1
def exQ (id : Nat) (K : Env → World → Prop) : Exit → Env → World → Prop
 |.exit k, e, w => k = id ∧ K e w
 |_, _, _ => False
theorem StopW.join {P : Program} {N : Nat} {c y : Code} {id : Nat} {Q1 Q2 : Exit → Env → World → Prop} {e : Env} {w : World} {ι : Type} (I : ι → Env) (J : ι → World → Prop)
  (h : StopW P N c (exQ id fun e' w' => ∃ i, subG (I i) e' ∧ J i w') e w) (hy : ∀ i w', J i w' → SemW P N y Q1 (I i) w') : StopW P N c (blkQ id (thenQ (SemW P N y Q1) Q2)) e w := by
 refine ⟨h.out.mono fun ex e' w' hq => ?_⟩
 cases ex with
 |exit k =>
  obtain ⟨rfl, i, h1, h2⟩ := hq
  simp only [blkQ, thenQ, Nat.beq_refl]
  exact SemW.weaken h1 (hy i w' h2)
 |_ => exact hq.elim
theorem Arr.dropA {w : World} {T : List Nat} {g off cap : Nat} {xs ys : List Value} (h : Arr w T (some ⟨g, off, none⟩) (xs ++ ys)) (hc : xs.length + ys.length ≤ cap) : Arr w T (subA g off xs.length cap 1) ys := by
 unfold subA
 split
 ·have : ys = [] := kCu (by omega)
  subst this; exact Arr.nil _ _ _
 ·intro j x hj
  obtain ⟨b, o, h1, h2, h3⟩ := h (xs.length + j) x (by rw [kBh (by omega), show xs.length + j - xs.length = j by omega]; exact hj)
  simp at h1
  obtain ⟨rfl, rfl⟩ := h1
  exact ⟨g, off + xs.length * 1, rfl, h2, by rw [show off + xs.length * 1 + j = off + (xs.length + j) by omega]; exact h3⟩
theorem Arr.left {w : World} {T : List Nat} {a : Option Addr} {ps qs : List Bytes} (h : Arr w T a ((ps ++ qs).map Str)) : Arr w T a (ps.map Str) := by
 rw [kAi] at h; exact fun j x hx => h j x (by rw [kAz ((kBt.1 hx).1)]; exact hx)
theorem Arr.right {w : World} {T : List Nat} {g off cap n : Nat} {ps qs : List Bytes} (h : Arr w T (some ⟨g, off, none⟩) ((ps ++ qs).map Str)) (hn : n = ps.length) (hc : ps.length + qs.length ≤ cap) : Arr w T (subA g off n cap 1) (qs.map Str) := by
 rw [kAi] at h
 have := Arr.dropA (cap := cap) h (by simpa using hc)
 rwa [kAv, ← hn] at this
theorem Arr.take {w : World} {T : List Nat} {a : Option Addr} {xs ys : List Value} (h : Arr w T a (xs ++ ys)) : Arr w T a xs := fun j x hx => h j x (by
 rw [kAz ((kBt.1 hx).1)]; exact hx)
end Go.Proofs.YtkgibdhpijdbfaaGreatDoor
namespace Go.Eng
open Go
section
variable {P : Program} {T0 : Tbl}
theorem foldl_push_bytes : ∀ (l : List UInt8) (r : ByteArray), (l.map (fun b => (b.toNat : Int))).foldl (fun r n => r.push (UInt8.ofNat n.toNat)) r = ⟨r.data ++ l.toArray⟩
 |[], r => by simp
 |b :: l, r => by
  simp only [kAh, kCd, foldl_push_bytes l]
  apply ByteArray.ext
  simp
theorem toStr (hT : TOk P T0) {s d e : TypeId} {i ie id : TI} (hi : tf T0 s = some i) (hk : i.k = .slice e 1) (hie : tf T0 e = some ie) (hke : ie.k = .int .u8) (hid : tf T0 d = some id) (hkd : id.k = .str)
  {C : World → Prop} {T : List Nat} {a : Option Addr} {bs : List UInt8} {n cap : Nat} (hn : bs.length = n) (ha : ∀ w, C w → Arr w T a (bs.map byteV)) {K : Value → Prop} (hK : K (Str bs)) :
  RdG P (convert s d (.slice a n cap)) C K := by
 refine ⟨⟨_, fun w hw => ?_, hK⟩⟩
 have hs := und_of hT hi; rw [hk] at hs
 have he := und_of hT hie; rw [hke] at he
 have hd := und_of hT hid; rw [hkd] at hd
 rw [run_convert_bytes_string w s d e a n cap hs.1 he hd]
 cases a with
 |none =>
  cases bs with
  |nil => rfl
  |cons b bs => obtain ⟨_, _, h, _⟩ := ha w hw 0 (byteV b) rfl; cases h
 |some a =>
  have h1 := run_loadCells_list (P := P) (w := w) a ((bs.map fun b => (b.toNat : Int)).map (Value.int .u8)) (fun j v hj => by
   have hj' : (bs.map byteV)[j]? = some v := by simpa [byteV, kCo, Function.comp] using hj
   obtain ⟨bk, off, h1, _, h3⟩ := ha w hw j v hj'
   cases h1
   rw [Addr.add_eq]; exact h3)
  rw [run_bytesToString (P := P) w a n cap (bs.map fun b => (b.toNat : Int)) (by simpa [hn] using h1)]
  congr 2
  rw [foldl_push_bytes]
  simp
end
/-! ### Unsigned integers -/
theorem wrapU (k : IntKind) (hs : k.signed = false) (n : Nat) : k.wrap (n : Int) = ((n % 2 ^ k.bits : Nat) : Int) := by
 unfold IntKind.wrap; simp only [hs]; simp
theorem u8wrap (n : Nat) : IntKind.u8.wrap (n : Int) = ((UInt8.ofNat n).toNat : Int) := by
 rw [wrapU .u8 rfl]; simp [UInt8.toNat_ofNat']; rfl
theorem fdivU (n k : Nat) : (n : Int).fdiv (k : Int) = ((n / k : Nat) : Int) := by
 rw [← Int.ofNat_fdiv]
theorem fdivP (n k : Nat) : (n : Int).fdiv (2 ^ k) = ((n / 2 ^ k : Nat) : Int) := by
 have : ((2 : Int) ^ k) = ((2 ^ k : Nat) : Int) := by simp
 rw [this, fdivU]
theorem orU (k : IntKind) (hs : k.signed = false) (x y : Nat) (hx : x < 2 ^ k.bits) (hy : y < 2 ^ k.bits) : orI k x y = ((x ||| y : Nat) : Int) := by
 unfold orI
 rw [BitVec.toNat_or, BitVec.ofInt_natCast, BitVec.ofInt_natCast, BitVec.toNat_ofNat, BitVec.toNat_ofNat, kBc hx, kBc hy, wrapU k hs, kBc (Nat.or_lt_two_pow hx hy)]
theorem andU (k : IntKind) (hs : k.signed = false) (x y : Nat) (hx : x < 2 ^ k.bits) (hy : y < 2 ^ k.bits) : andI k x y = ((x &&& y : Nat) : Int) := by
 unfold andI
 rw [BitVec.toNat_and, BitVec.ofInt_natCast, BitVec.ofInt_natCast, BitVec.toNat_ofNat, BitVec.toNat_ofNat, kBc hx, kBc hy, wrapU k hs, kBc (Nat.and_lt_two_pow _ hy)]
theorem xorU (k : IntKind) (hs : k.signed = false) (x y : Nat) (hx : x < 2 ^ k.bits) (hy : y < 2 ^ k.bits) : xorI k x y = ((x ^^^ y : Nat) : Int) := by
 unfold xorI
 rw [BitVec.toNat_xor, BitVec.ofInt_natCast, BitVec.ofInt_natCast, BitVec.toNat_ofNat, BitVec.toNat_ofNat, kBc hx, kBc hy, wrapU k hs, kBc (Nat.xor_lt_two_pow hx hy)]
theorem or_add (a b k : Nat) (hb : b < 2 ^ k) : (a * 2 ^ k) ||| b = a * 2 ^ k + b := by
 rw [← Nat.shiftLeft_eq, Nat.shiftLeft_add_eq_or_of_lt hb]
end Go.Eng
namespace Go.Proofs.YtkgibdhpijdbfaaGreatDoor
open Go Go.Eng Go.Proofs
def be4 (n : Nat) : List UInt8 := [UInt8.ofNat (n / 2 ^ 24), UInt8.ofNat (n / 2 ^ 16), UInt8.ofNat (n / 2 ^ 8), UInt8.ofNat n]
theorem four_spec {w : World} (n : Nat) : Cl Tryz.prog f_frame_four [.int .u32 n] w fun v w' => v = Str (be4 n) ∧ St w [] [] w' := by
 have hS := St.start w
 refine en_frame_four rfl ?_
 refine jq ⟨?_⟩
 refine hS.al ?_
 intro b w1 hb hS
 refine toStr (bs := be4 n) tblOk rfl rfl rfl rfl rfl rfl rfl (T := []) (fun w' e => ?_) ?_
 ·subst e
  have e1 : (be4 n).map byteV = [.int .u8 (IntKind.u8.wrap ((n : Int).fdiv (2 ^ 24))), .int .u8 (IntKind.u8.wrap ((n : Int).fdiv (2 ^ 16))), .int .u8 (IntKind.u8.wrap ((n : Int).fdiv (2 ^ 8))), .int .u8 (IntKind.u8.wrap (n : Int))] := by
   simp only [be4, kAh, kC, byteV]
   rw [← u8wrap, ← u8wrap, ← u8wrap, ← u8wrap, ← fdivP, ← fdivP, ← fdivP]
  rw [e1]; exact hS.arr (by simp)
 ·refine jq ⟨?_⟩
  exact ⟨rfl, hS.nil⟩
def num4 (l : List UInt8) : Nat := ((l.getD 0 0).toNat * 2 ^ 24 + (l.getD 1 0).toNat * 2 ^ 16) + (l.getD 2 0).toNat * 2 ^ 8 + (l.getD 3 0).toNat
theorem num4_lt (l : List UInt8) : num4 l < 4294967296 := by
 have h0 := (l.getD 0 0).toNat_lt
 have h1 := (l.getD 1 0).toNat_lt
 have h2 := (l.getD 2 0).toNat_lt
 have h3 := (l.getD 3 0).toNat_lt
 unfold num4; omega
theorem num4_be4 (n : Nat) (hn : n < 4294967296) : num4 (be4 n) = n := by
 simp only [num4, be4, kCe]
 simp [UInt8.toNat_ofNat']
 omega
theorem u32wrap (n : Nat) (h : n < 4294967296) : IntKind.u32.wrap (n : Int) = (n : Int) := by
 rw [wrapU .u32 rfl]; congr 1; exact kBc h
theorem num4_eq (l : List UInt8) : orI .u32 (orI .u32 (orI .u32 (IntKind.u32.wrap (IntKind.u32.wrap ((l.getD 0 0).toNat : Int) * 2 ^ 24)) (IntKind.u32.wrap (IntKind.u32.wrap ((l.getD 1 0).toNat : Int) * 2 ^ 16)))
  (IntKind.u32.wrap (IntKind.u32.wrap ((l.getD 2 0).toNat : Int) * 2 ^ 8))) (IntKind.u32.wrap ((l.getD 3 0).toNat : Int)) = (num4 l : Int) := by
 have h0 := (l.getD 0 0).toNat_lt
 have h1 := (l.getD 1 0).toNat_lt
 have h2 := (l.getD 2 0).toNat_lt
 have h3 := (l.getD 3 0).toNat_lt
 unfold num4
 generalize (l.getD 0 0).toNat = a at *
 generalize (l.getD 1 0).toNat = b at *
 generalize (l.getD 2 0).toNat = c at *
 generalize (l.getD 3 0).toNat = d at *
 rw [u32wrap a (by omega), u32wrap b (by omega), u32wrap c (by omega), u32wrap d (by omega)]
 rw [show (a : Int) * 2 ^ 24 = ((a * 2 ^ 24 : Nat) : Int) by simp, show (b : Int) * 2 ^ 16 = ((b * 2 ^ 16 : Nat) : Int) by simp, show (c : Int) * 2 ^ 8 = ((c * 2 ^ 8 : Nat) : Int) by simp]
 rw [u32wrap _ (by omega), u32wrap _ (by omega), u32wrap _ (by omega)]
 rw [orU .u32 rfl _ _ (by show _ < 2 ^ 32; omega) (by show _ < 2 ^ 32; omega), or_add a (b * 2 ^ 16) 24 (by omega)]
 rw [orU .u32 rfl _ _ (by show _ < 2 ^ 32; omega) (by show _ < 2 ^ 32; omega), show a * 2 ^ 24 + b * 2 ^ 16 = (a * 2 ^ 8 + b) * 2 ^ 16 by omega, or_add _ (c * 2 ^ 8) 16 (by omega)]
 rw [orU .u32 rfl _ _ (by show _ < 2 ^ 32; omega) (by show _ < 2 ^ 32; omega), show (a * 2 ^ 8 + b) * 2 ^ 16 + c * 2 ^ 8 = ((a * 2 ^ 8 + b) * 2 ^ 8 + c) * 2 ^ 8 by omega, or_add _ d 8 (by omega)]
theorem number_spec {w : World} (l : List UInt8) (hl : 4 ≤ l.length) : Cl Tryz.prog f_frame_number [Str l] w fun v w' => v = .int .u32 (num4 l) ∧ St w [] [] w' := by
 have hS := St.start w
 refine en_frame_number rfl ?_
 refine jq ⟨?_⟩
 refine SemW.draw tblOk mixed (fun _ => True) [] [0, 1, 2, 3, 4, 5, 6, 7, 8, 9, 10, 11, 12, 13, 14, 15, 16, 17, 18] (by kernel_rfl) trivial ?_
 refine jq ⟨?_⟩
 exact ⟨congrArg (Value.int .u32) (num4_eq l), hS.drew⟩
def crcBit (reg : Int) : Int := xorI .u32 (reg.fdiv (2 ^ (min (1 : Int).toNat 32))) (andI .u32 3988292384 (IntKind.u32.wrap (0 - andI .u32 reg 1)))
def crcBits : Nat → Int → Int
 |0, r => r
 |n + 1, r => crcBit (crcBits n r)
def crcByte (reg : Int) (c : UInt8) : Int := crcBits 8 (xorI .u32 reg (IntKind.u32.wrap c.toNat))
def crcs (reg : Int) (p : List UInt8) : Int := p.foldl crcByte reg
def crc (parts : List (List UInt8)) : Int := xorI .u32 (if IntKind.u32.signed then -1 else IntKind.u32.max) (parts.foldl crcs 4294967295)
theorem wrapU_range (k : IntKind) (hs : k.signed = false) (z : Int) : ∃ n : Nat, k.wrap z = (n : Int) ∧ n < 2 ^ k.bits := by
 have h1 : k.wrap z = z % ((2 ^ k.bits : Nat) : Int) := by unfold IntKind.wrap; simp only [hs]; simp
 have hp : (0 : Int) < ((2 ^ k.bits : Nat) : Int) := by have := Nat.two_pow_pos k.bits; omega
 have h2 := Int.emod_nonneg z (Int.ne_of_gt hp)
 have h3 := Int.emod_lt_of_pos z hp
 exact ⟨(z % ((2 ^ k.bits : Nat) : Int)).toNat, by rw [h1]; omega, by omega⟩
def crcN (parts : List (List UInt8)) : Nat := (crc parts).toNat
theorem crcN_eq (parts : List (List UInt8)) : crc parts = (crcN parts : Int) ∧ crcN parts < 4294967296 := by
 obtain ⟨n, h1, h2⟩ := wrapU_range .u32 rfl ((BitVec.ofInt IntKind.u32.bits (if IntKind.u32.signed then -1 else IntKind.u32.max) ^^^ BitVec.ofInt IntKind.u32.bits (parts.foldl crcs 4294967295)).toNat)
 have h3 : crc parts = n := h1
 have h4 : n < 4294967296 := h2
 unfold crcN
 rw [h3]; exact ⟨by simp, by simpa using h4⟩
theorem crcs_succ (r : Int) (p : List UInt8) (j : Nat) (hj : j < p.length) : crcs r (p.take (j + 1)) = crcByte (crcs r (p.take j)) (p.getD j 0) := by
 unfold crcs; rw [kAn hj, kCn]; simp [hj]
theorem foldl_succ (r : Int) (ps : List (List UInt8)) (k : Nat) (hk : k < ps.length) : (ps.take (k + 1)).foldl crcs r = crcs ((ps.take k).foldl crcs r) ps[k] := by
 rw [kAn hk, kCn]; rfl
set_option maxHeartbeats 400000 in
theorem Sum_spec {w : World} {a : Option Addr} {cap : Nat} {ps : List (List UInt8)} (hb : ps.length ≤ 9000000000000000000) (hl : ∀ p ∈ ps, p.length ≤ 9000000000000000000)
  (ha : Arr w [] a (ps.map Str)) : Cl Tryz.prog f_frame_Sum [.slice a ps.length cap] w fun v w' => v = .int .u32 (crcN ps) ∧ St w [] [] w' := by
 rw [← (crcN_eq ps).1]
 refine en_frame_Sum rfl ?_
 refine jq ⟨?_⟩
 refine SemW.loop (fun k : Nat => [(7, .slice a ps.length cap), (8, .int .i64 ps.length), (9, .int .i64 k), (3, .int .u32 ((ps.take k).foldl crcs 4294967295))]) (fun k w' => k ≤ ps.length ∧ w' = w) (fun k => ps.length - k) 0
  ⟨rfl, rfl, rfl, rfl, trivial⟩ ⟨kAg _, rfl⟩ ?_
 rintro k w' ⟨hk, rfl⟩
 refine jq ⟨?_⟩
 refine BrG.dec (fun h => ?_) (fun h => ?_)
 ·have hk' : k < ps.length := by omega
  obtain ⟨b, off, rfl, -, hc⟩ := ha k (Str ps[k]) (by simp [hk'])
  refine jq ⟨?_⟩
  refine LdC.mk ⟨_, fun _ e => by subst e; simpa using hc, ?_⟩
  refine jq ⟨?_⟩
  have hpl := hl ps[k] (by simp)
  refine SemW.loop (fun j : Nat => [(7, .slice (some ⟨b, off, none⟩) ps.length cap), (8, .int .i64 ps.length), (9, .int .i64 k), (5, Str ps[k]), (14, .int .i64 ps[k].length), (15, .int .i64 j), (3, .int .u32 (crcs ((ps.take k).foldl crcs 4294967295) (ps[k].take j)))]) (fun j w'' => j ≤ ps[k].length ∧ w'' = w') (fun j => ps[k].length - j) 0
   ⟨rfl, rfl, rfl, rfl, rfl, rfl, rfl, trivial⟩ ⟨kAg _, rfl⟩ ?_
  rintro j w'' ⟨hj, rfl⟩
  refine jq ⟨?_⟩
  refine BrG.dec (fun h => ?_) (fun h => ?_)
  ·have hj' : j < ps[k].length := by omega
   refine jq ⟨?_⟩
   refine SemW.loop (fun i : Nat => [(7, .slice (some ⟨b, off, none⟩) ps.length cap), (8, .int .i64 ps.length), (9, .int .i64 k), (5, Str ps[k]), (14, .int .i64 ps[k].length), (15, .int .i64 j), (24, .int .i64 i), (3, .int .u32 (crcBits i (xorI .u32 (crcs ((ps.take k).foldl crcs 4294967295) (ps[k].take j)) (IntKind.u32.wrap (ps[k].getD j 0).toNat))))]) (fun i w3 => i ≤ 8 ∧ w3 = w'') (fun i => 8 - i) 0
    ⟨rfl, rfl, rfl, rfl, rfl, rfl, rfl, rfl, trivial⟩ ⟨kAg _, rfl⟩ ?_
   rintro i w3 ⟨hi, rfl⟩
   refine jq ⟨?_⟩
   refine BrG.dec (fun h => ?_) (fun h => ?_)
   ·refine jq ⟨?_⟩
    refine ⟨i + 1, ⟨rfl, rfl, rfl, rfl, rfl, rfl, rfl, rfl, trivial⟩, ⟨by omega, rfl⟩, by omega⟩
   ·have : i = 8 := by omega
    subst this
    refine jq ⟨?_⟩
    refine ⟨j + 1, ⟨rfl, rfl, rfl, rfl, rfl, rfl, ?_, trivial⟩, ⟨by omega, rfl⟩, by omega⟩
    show _ = (_ : Value)
    rw [crcs_succ _ _ _ hj']
    rfl
  ·have : j = ps[k].length := by omega
   subst this
   refine jq ⟨?_⟩
   refine ⟨k + 1, ⟨rfl, rfl, rfl, ?_, trivial⟩, ⟨by omega, rfl⟩, by omega⟩
   show _ = (_ : Value)
   rw [foldl_succ _ _ _ hk', kAr]
 ·have : k = ps.length := by omega
  subst this
  refine jq ⟨?_⟩
  rw [kAr]
  exact ⟨rfl, St.start _⟩
def frameB (p : List UInt8) : List UInt8 := be4 p.length ++ be4 (crcN [be4 p.length, p]) ++ p
def sealB (ps : List (List UInt8)) : List UInt8 := (ps.map frameB).flatten
theorem frameB_len (p : List UInt8) : (frameB p).length = p.length + 8 := by simp [frameB, be4]
theorem sealB_len (ps : List (List UInt8)) : (sealB ps).length = sumLen ps + 8 * ps.length := by
 induction ps with
 |nil => rfl
 |cons p r ih => simp only [sealB, sumLen, kAh, kBi, kAa, kCj, kAe, frameB_len] at ih ⊢; omega
theorem sealB_succ (ps : List (List UInt8)) (k : Nat) (hk : k < ps.length) : sealB (ps.take (k + 1)) = sealB (ps.take k) ++ frameB ps[k] := by
 unfold sealB; rw [kAn hk, kAi, kBy]; simp
def okLens (ps : List (List UInt8)) : Bool := ps.all fun p => decide (p.length ≤ 65536)
inductive Bld (b : Nat) (s : List UInt8) : Heap → Prop where
 |mk (p : Value) (hp : p = .pointer none ∨ p = ptr b) (a : Option Addr) (cap : Nat) (L : Heap) (hv : Vec T_uint8 1 a s.length cap (s.map byteV) L) :
  Bld b s ((b, .cells ⟨[p, .slice a s.length cap]⟩ T_strings_Builder (0, 0)) :: L)
theorem Bld.new (b : Nat) : Bld b [] [(b, .cells ⟨[.pointer none, .slice none 0 0]⟩ T_strings_Builder (0, 0))] := Bld.mk _ (.inl rfl) none 0 [] Vec.nil
theorem run_NoEscape (v : Value) (w : World) : (callFunc f_internal_abi_NoEscape ⟨[v]⟩).run Tryz.prog w = .ok (.value v) w := by
 rw [run_callFunc_extern func_internal_abi_NoEscape (by kernel_rfl) (by kernel_rfl) (by kernel_rfl) (e := Extern.AbiNoEscape.same) (by kernel_rfl)]
 rfl
theorem und_unsafe : Tryz.prog.underlying T_unsafe_Pointer = some .unsafePointer := by kernel_rfl
theorem liesBuilder : liesAt Tryz.prog Tryz.prog.depth T_strings_Builder (2 / Tryz.prog.cellsOf T_strings_Builder) 0 T_strings_Builder 1 = true := by kernel_rfl
theorem copyCheck_spec {w : World} {b n cap : Nat} {p : Value} {a : Option Addr} {L1 : Heap} (hp : p = .pointer none ∨ p = ptr b)
  (hh : Holds ((b, .cells ⟨[p, .slice a n cap]⟩ T_strings_Builder (0, 0)) :: L1) w) :
  Cl Tryz.prog f_strings_Builder_copyCheck [ptr b] w fun v w' => v = .tuple ⟨[]⟩ ∧ St w (b :: keys L1) ((b, .cells ⟨[ptr b, .slice a n cap]⟩ T_strings_Builder (0, 0)) :: L1) w' := by
 have hS : St w (b :: keys L1) _ w := St.enter hh
 have hsh : w.shape? b = some (T_strings_Builder, 2) := by
  have := hS.mem (b := b)
  simp [World.shape?, this]
 obtain ⟨inf, hinf, -, hsz, -⟩ := info_of tblOk (t := T_strings_Builder) rfl
 refine en_strings_Builder_copyCheck rfl ?_
 rcases hp with rfl | rfl
 ·(repeat (refine jt ⟨?_⟩; refine hS.st rfl rfl ?_; intro _ hS)); refine jt ⟨?_⟩
  refine RunG.of (Lib.run_to_unsafe w ⟨b, 0, none⟩ (und_of tblOk (t := T_Ptr_strings_Builder) rfl) und_unsafe hinf (by rw [hsz]; nofun) hsh (Nat.zero_lt_succ 1)) ?_
  refine Or.inr ⟨_, _, run_NoEscape _ _, ?_⟩
  refine RunG.of (Lib.run_from_unsafe w ⟨b, 0, none⟩ und_unsafe (und_of tblOk (t := T_Ptr_strings_Builder) rfl) hinf hsh liesBuilder) ?_
  (repeat (refine jt ⟨?_⟩; refine hS.st rfl rfl ?_; intro _ hS)); refine jt ⟨?_⟩
  exact ⟨rfl, hS⟩
 ·(repeat (refine jt ⟨?_⟩; refine hS.st rfl rfl ?_; intro _ hS)); refine jt ⟨?_⟩
  refine PureRun.mk ⟨.bool false, fun w => ?_, ?_⟩
  ·have := Lib.run_neq_ptr_same (P := Tryz.prog) w ⟨b, 0, none⟩ (und_of tblOk (t := T_Ptr_strings_Builder) rfl) hinf
   simp only [Sem.run_bind, run_eqGuard_of Tryz.prog .neq T_Ptr_strings_Builder _ _ (ptr b) (ptr b) w nofun nofun, Result.andThen_ok]
   exact this
  ·(repeat (refine jt ⟨?_⟩; refine hS.st rfl rfl ?_; intro _ hS)); refine jt ⟨?_⟩
   exact ⟨rfl, hS⟩
theorem WriteString_spec {w : World} {b : Nat} {s t : List UInt8} {L : Heap} (hL : Bld b s L) (hh : Holds L w) (hlen : s.length + t.length ≤ 140737488355328) :
  Cl Tryz.prog f_strings_Builder_WriteString [ptr b, Str t] w fun v w' => v = .tuple ⟨[.int .i64 t.length, .nilIface]⟩ ∧ ∃ L', Bld b (s ++ t) L' ∧ St w (keys L) L' w' := by
 obtain ⟨p, hp, a, cap, L1, hv⟩ := hL
 refine en_strings_Builder_WriteString rfl ?_
 refine jq ⟨?_⟩
 refine (copyCheck_spec hp hh).mono ?_
 rintro _ w1 ⟨rfl, hS⟩
 (repeat (refine jt ⟨?_⟩; refine hS.st rfl rfl ?_; intro _ hS)); refine jt ⟨?_⟩
 refine St.appStr tblOk rfl rfl rfl rfl rfl rfl hS hv (by show (_ + _) * 1 ≤ _; omega) (by omega) ?_
 intro a' cap' L' w2 hv' hS
 (repeat (refine jt ⟨?_⟩; refine hS.st rfl rfl ?_; intro _ hS)); refine jt ⟨?_⟩
 refine ⟨rfl, _, Bld.mk (ptr b) (.inr rfl) a' cap' L' ?_, ?_⟩
 ·simpa using hv'
 ·rw [kAa]; exact hS
theorem shape_of {w : World} {g : Nat} {l : List Value} {e : TypeId} {fz : Nat × Nat} (h : w.heap[g]? = some (.cells ⟨l⟩ e fz)) : w.shape? g = some (e, l.length) := by
 simp [World.shape?, h]
theorem cellsByte : Tryz.prog.cellsOf T_uint8 = 1 := by kernel_rfl
theorem mem_keys' {H : Heap} {p : Nat × Obj} (h : p ∈ H) : p.1 ∈ keys H := kAw h
theorem frozen_drop {w0 w : World} {T : List Nat} {g : Nat} {o : Obj} {H : Heap} (hS : St w0 T ((g, o) :: H) w) (a : Addr) (ha : a.block = g) (n : Nat) : St w0 T H (w.freeze a n) := by
 unfold World.freeze
 split
 ·exact hS.sub (kAb _ _)
 ·refine ⟨hS.os, hS.tape, hS.output, by simpa using hS.size, fun b hb hT => ?_, fun p hp => ?_, (kBq.1 hS.nd).2, fun p hp => hS.fresh p (kAs _ hp)⟩
  ·have hne : g ≠ b := fun e => by subst e; exact hT (hS.fresh _ kAt hb)
   simp only [Array.getElem?_modify, ha]
   rw [if_neg hne]; exact hS.old b hb hT
  ·have hne : g ≠ p.1 := fun e => (kBq.1 hS.nd).1 (by have := mem_keys' hp; rw [← e] at this; exact this)
   simp only [Array.getElem?_modify, ha]
   rw [if_neg hne]; exact hS.own p (kAs _ hp)
theorem String_spec {w : World} {b : Nat} {s : List UInt8} {L : Heap} (hL : Bld b s L) (hh : Holds L w) (hlen : s.length ≤ 140737488355328) :
  Cl Tryz.prog f_strings_Builder_String [ptr b] w fun v w' => v = Str s ∧ St w (keys L) [] w' := by
 have hS := St.enter hh
 obtain ⟨p, hp, a, cap, L1, hv⟩ := hL
 refine en_strings_Builder_String rfl ?_
 refine jq ⟨?_⟩
 refine SemW.draw tblOk mixed (fun w' => St w (keys ((b, .cells ⟨[p, .slice a s.length cap]⟩ T_strings_Builder (0, 0)) :: L1)) ((b, .cells ⟨[p, .slice a s.length cap]⟩ T_strings_Builder (0, 0)) :: L1) w')
  [10, 11] [0, 1, 2, 3, 5, 6, 7, 8, 9, 4, 10, 11] (by kernel_rfl) hS.drew ?_
 refine jr ⟨?_⟩
 have hS := hS.drew
 generalize w.drew = w1 at hS ⊢
 -- the pointer to the bytes
 by_cases hs : s = []
 ·subst hs
  have key : ∃ q w2, (Builtin.unsafeSliceData_ ⟨[T_Sl_uint8]⟩ T_Ptr_uint8 ⟨[.slice a 0 cap]⟩).run Tryz.prog w1 = .ok (.pointer q) w2 ∧ St w (keys ((b, .cells ⟨[p, .slice a 0 cap]⟩ T_strings_Builder (0, 0)) :: L1)) ((b, .cells ⟨[p, .slice a 0 cap]⟩ T_strings_Builder (0, 0)) :: L1) w2 := by
   cases hv with
   |nil => exact ⟨none, w1, rfl, hS⟩
   |row g n cap xs l hx hl hn =>
    by_cases hc : cap = 0
    ·subst hc
     exact ⟨_, _, Lib.run_unsafeSliceData_zero w1 _ _ _ (und_of tblOk (t := T_Ptr_uint8) rfl) _ _ _ (shape_of (hS.mem (b := g))), (hS.alloc _).sub (kAb _ _)⟩
    ·exact ⟨_, w1, Lib.run_unsafeSliceData_row (P := Tryz.prog) w1 _ _ _ _ _ hc, hS⟩
  obtain ⟨q, w2, h1, hS⟩ := key
  refine RunG.of h1 ?_
  refine Chk.mk hS ?_
  refine RunG.of (Lib.run_unsafeString_none (P := Tryz.prog) w2 _ _ _ q) ?_
  refine jq ⟨?_⟩
  exact ⟨rfl, hS.nil⟩
 ·rcases hv.inv with ⟨-, h0, -⟩ | ⟨g, l, rfl, hx, hl, hn, rfl⟩
  ·exact absurd (kCh.1 h0) hs
  ·have hs0 : 0 < s.length := List.length_pos_iff.2 hs
   have hcap : cap ≠ 0 := by omega
   refine RunG.of (Lib.run_unsafeSliceData_row (P := Tryz.prog) w1 _ _ ⟨g, 0, none⟩ s.length cap hcap) ?_
   refine Chk.mk hS ?_
   refine RunG.of (Lib.run_unsafeString_row (P := Tryz.prog) w1 _ _ _ T_uint8 (und_of tblOk (t := T_Ptr_uint8) rfl) cellsByte g _ (shape_of (hS.mem (b := g))) s hs (by simp) (by omega) ?_) ?_
   ·intro j x hx
    rw [Addr.add_eq, kBl]
    refine hS.cell ?_
    have hlt : j < s.length := (kBt.1 hx).1
    rw [kAz (by simpa using hlt)]
    simp [hx, byteV]
   ·refine jq ⟨?_⟩
    refine ⟨rfl, ?_⟩
    exact (frozen_drop (hS.perm (List.Perm.swap _ _ _)) ⟨g, 0, none⟩ rfl s.length).nil
set_option maxHeartbeats 1000000 in
theorem Seal_spec {w : World} {a : Option Addr} {cap : Nat} {ps : List (List UInt8)} (hlen : sumLen ps + 8 * ps.length ≤ 140737488355328) (ha : Arr w [] a (ps.map Str)) :
  Cl Tryz.prog f_frame_Seal [.slice a ps.length cap] w fun v w' => v = .tuple ⟨if okLens ps then [Str (sealB ps), .int .i64 0] else [Str [], .int .i64 2]⟩ ∧ St w [] [] w' := by
 have hS := St.start w
 refine en_frame_Seal rfl ?_
 refine jq ⟨?_⟩
 refine hS.al ?_
 intro b w1 hb hS
 refine jq ⟨?_⟩
 refine SemW.loop (fun k : Nat => [(8, .slice a ps.length cap), (9, .int .i64 ps.length), (10, .int .i64 k), (4, ptr b)]) (fun k w' => k ≤ ps.length ∧ (∀ j, (h : j < ps.length) → j < k → ps[j].length ≤ 65536) ∧ ∃ L, Bld b (sealB (ps.take k)) L ∧ St w [] L w') (fun k => ps.length - k) 0
  ⟨rfl, rfl, rfl, rfl, trivial⟩ ⟨kAg _, fun _ _ h => absurd h (Nat.not_lt_zero _), _, Bld.new b, hS⟩ ?_
 rintro k w2 ⟨hk, hall, L, hB, hS⟩
 by_cases hkl : k < ps.length
 ·have h1 := sumLen_take ps k hkl
  have h2 := sumLen_take_le ps (k + 1)
  have h3 := sealB_len (ps.take k)
  have h4 : (ps.take k).length = k := by simp; omega
  obtain ⟨b', off', rfl, -, hck⟩ := ha.get (j := k) (by simp; omega)
  simp only [kCp] at hck
  refine jq ⟨?_⟩
  refine hS.ldOld (by simp) (by simpa using hck) ?_
  refine jq ⟨?_⟩
  refine BrG.dec (fun h => ?_) (fun h => ?_)
  ·refine jq ⟨?_⟩
   have : okLens ps = false := by
    cases hok : okLens ps with
    |false => rfl
    |true =>
     have := of_decide_eq_true (kBd.1 hok ps[k] (kAx _))
     omega
   rw [this]
   exact ⟨rfl, hS.nil⟩
  ·refine jq ⟨?_⟩
   refine (four_spec ps[k].length).mono ?_
   rintro _ w3 ⟨rfl, hS'⟩
   have hS := hS.call0 hS'
   refine jq ⟨?_⟩
   refine hS.al ?_
   intro b2 w4 hb2 hS
   refine (Sum_spec (ps := [be4 ps[k].length, ps[k]]) (by simp) (by simp [be4]; omega) (hS.arr (b := b2) (by simp))).mono ?_
   rintro _ w5 ⟨rfl, hS'⟩
   have hS := (hS.call0 hS').sub (kAb _ _)
   refine jq ⟨?_⟩
   refine (four_spec (crcN [be4 ps[k].length, ps[k]])).mono ?_
   rintro _ w6 ⟨rfl, hS'⟩
   have hS := hS.call0 hS'
   refine Chk.mk (by simp [be4]) ?_
   refine (WriteString_spec hB hS.holds (by simp [be4]; omega)).mono ?_
   rintro _ w7 ⟨rfl, L2, hB, hS'⟩
   have hS := hS.call hS'
   refine jq ⟨?_⟩
   refine (WriteString_spec hB hS.holds (by simp [be4]; omega)).mono ?_
   rintro _ w8 ⟨rfl, L3, hB, hS'⟩
   have hS := hS.call hS'
   refine jq ⟨?_⟩
   refine ⟨k + 1, ⟨rfl, rfl, rfl, rfl, trivial⟩, ⟨by omega, fun j hj hjk => ?_, L3, ?_, hS⟩, by omega⟩
   ·by_cases hjk' : j = k
    ·subst hjk'; omega
    ·exact hall j hj (by omega)
   ·rw [sealB_succ ps k hkl]
    simpa [frameB, kAc] using hB
 ·have hke : k = ps.length := by omega
  subst hke
  rw [kAr] at hB
  have h3 := sealB_len ps
  refine jq ⟨?_⟩
  refine (String_spec hB hS.holds (by omega)).mono ?_
  rintro _ w3 ⟨rfl, hS'⟩
  have hS := hS.call hS'
  refine jq ⟨?_⟩
  have : okLens ps = true := kBd.2 fun p hp => by
   obtain ⟨j, hj, rfl⟩ := List.getElem_of_mem hp
   exact decide_eq_true (hall j hj hj)
  rw [this]
  exact ⟨rfl, hS⟩
end Go.Proofs.YtkgibdhpijdbfaaGreatDoor
namespace Go.Proofs.YtkgibdhpijdbfaaGreatDoor
open Go Go.Eng Go.Proofs
theorem run_MakeNoZero {w0 w : World} {T : List Nat} {H : Heap} (hS : St w0 T H w) (n : Nat) (hn : n ≤ 281474976710656) {K : Value → World → Prop}
  (h : ∀ g l w', n ≤ l.length → St w0 T ((g, .cells ⟨l⟩ T_uint8 (0, 0)) :: H) w' → K (.slice (some ⟨g, 0, none⟩) n l.length) w') :
  Cl Tryz.prog f_internal_bytealg_MakeNoZero [.int .i64 n] w K := by
 obtain ⟨cs, h1, h2, _⟩ := Lib.run_makeNoZero (P := Tryz.prog) w #[T_int] T_Sl_uint8 T_uint8 (und_of tblOk (t := T_Sl_uint8) rfl).1 n hn
 obtain ⟨l⟩ := cs
 refine Or.inr ⟨_, w.drew.drew.alloc (.cells ⟨l⟩ T_uint8), ?_, h w.heap.size l _ h2 ?_⟩
 ·rw [run_callFunc_extern func_internal_bytealg_MakeNoZero (by kernel_rfl) (by kernel_rfl) (by kernel_rfl) (e := Extern.BytealgMakeNoZero.makeNoZero #[T_int] #[T_Sl_uint8]) (by kernel_rfl)]
  rw [show (Array.mk [Value.int IntKind.i64 ↑n]) = #[.int .i64 ↑n] from rfl, h1]
  rfl
 ·exact hS.drew.drew.alloc _
theorem grow_spec {w : World} {b : Nat} (n : Nat) (hn : n ≤ 140737488355328) (hh : Holds [(b, .cells ⟨[ptr b, .slice none 0 0]⟩ T_strings_Builder (0, 0))] w) :
  Cl Tryz.prog f_strings_Builder_grow [ptr b, .int .i64 n] w fun v w' => v = .tuple ⟨[]⟩ ∧ ∃ L', Bld b [] L' ∧ St w [b] L' w' := by
 have hS := St.enter hh
 refine en_strings_Builder_grow rfl ?_
 refine jq ⟨?_⟩
 refine SemW.draw tblOk mixed (fun w' => ∃ H, St w [b] ((b, .cells ⟨[ptr b, .slice none 0 0]⟩ T_strings_Builder (0, 0)) :: H) w')
  [] [0, 1, 2, 3, 4, 5, 6, 7, 9, 10, 11, 12, 13, 8, 14, 15] (by kernel_rfl) ⟨[], hS.drew⟩ ?_
 refine LdC.mk ⟨_, fun w' ⟨H, h⟩ => h.cell (l := [ptr b, .slice none 0 0]) rfl, ?_⟩
 refine jq ⟨?_⟩
 refine LdC.mk ⟨_, fun w' ⟨H, h⟩ => h.cell (l := [ptr b, .slice none 0 0]) rfl, ?_⟩
 refine jq ⟨?_⟩
 have e1 : (2 : Int) * ((0 : Nat) : Int) + (n : Int) = ((n : Nat) : Int) := by omega
 rw [e1]
 refine run_MakeNoZero hS.drew n (by omega) ?_
 intro g l w1 hl hS
 refine Chk.mk ⟨_, hS.perm (List.Perm.swap _ _ _)⟩ ?_
 (repeat (refine jt ⟨?_⟩; refine hS.st rfl rfl ?_; intro _ hS)); refine jt ⟨?_⟩
 refine RunG.of (run_copy_nil (P := Tryz.prog) w1 _ _ _ T_uint8 ⟨g, 0, none⟩ 0 l.length (und_of tblOk (t := T_Sl_uint8) rfl).1 (by kernel_rfl)) ?_
 (repeat (refine jt ⟨?_⟩; refine hS.st rfl rfl ?_; intro _ hS)); refine jt ⟨?_⟩
 refine ⟨rfl, _, Bld.mk (s := []) (ptr b) (.inr rfl) (some ⟨g, 0, none⟩) l.length [(g, .cells ⟨l⟩ T_uint8 (0, 0))] ?_, hS.perm (List.Perm.swap _ _ _)⟩
 have := Vec.row (e := T_uint8) (sz := 1) g 0 l.length [] l rfl (by simp) (by omega)
 simpa using this
theorem Grow_spec {w : World} {b : Nat} (n : Nat) (hn : n ≤ 140737488355328) (hh : Holds [(b, .cells ⟨[.pointer none, .slice none 0 0]⟩ T_strings_Builder (0, 0))] w) :
  Cl Tryz.prog f_strings_Builder_Grow [ptr b, .int .i64 n] w fun v w' => v = .tuple ⟨[]⟩ ∧ ∃ L', Bld b [] L' ∧ St w [b] L' w' := by
 refine en_strings_Builder_Grow rfl ?_
 refine jq ⟨?_⟩
 refine (copyCheck_spec (.inl rfl) hh).mono ?_
 rintro _ w1 ⟨rfl, hS⟩
 ·(repeat (refine jt ⟨?_⟩; refine hS.st rfl rfl ?_; intro _ hS)); refine jt ⟨?_⟩
  refine SemW.draw tblOk mixed (fun w' => St w [b] [(b, .cells ⟨[ptr b, .slice none 0 0]⟩ T_strings_Builder (0, 0))] w')
   [] [0, 1, 2, 3, 4, 5, 6, 7, 8, 9, 10, 11, 12] (by kernel_rfl) hS.drew ?_
  have hS : St w [b] [(b, .cells ⟨[ptr b, .slice none 0 0]⟩ T_strings_Builder (0, 0))] w1.drew := hS.drew
  generalize w1.drew = w2 at hS ⊢
  refine jr ⟨?_⟩
  refine BrG.dec (fun h => ?_) (fun h => ?_)
  ·refine jq ⟨?_⟩
   refine (grow_spec n hn hS.holds).mono ?_
   rintro _ w3 ⟨rfl, L', hB, hS'⟩
   have hS := hS.call (L := [(b, .cells ⟨[ptr b, .slice none 0 0]⟩ T_strings_Builder (0, 0))]) hS'
   refine jq ⟨?_⟩
   exact ⟨rfl, _, hB, hS⟩
  ·refine jq ⟨?_⟩
   exact ⟨rfl, _, Bld.mk (s := []) (ptr b) (.inr rfl) none 0 [] Vec.nil, hS⟩
def joinB (sep : List UInt8) : List (List UInt8) → List UInt8
 |[] => []
 |p :: r => p ++ (r.map (sep ++ ·)).flatten
theorem joinB_nil (ps : List (List UInt8)) : joinB [] ps = ps.flatten := by
 cases ps <;> simp [joinB]
theorem joinB_len (sep p : List UInt8) (r : List (List UInt8)) : (joinB sep (p :: r)).length = sumLen (p :: r) + sep.length * r.length := by
 simp only [joinB, kAa, sumLen, kAh, kCj]
 have : ((r.map (sep ++ ·)).flatten).length = (r.map List.length).sum + sep.length * r.length := by
  induction r with
  |nil => simp
  |cons x r ih => simp only [kAh, kBi, kAa, ih, kCj, kAe, Nat.mul_succ]; omega
 omega
theorem joinB_part (sep : List UInt8) (ps : List (List UInt8)) (k : Nat) (h : 0 < ps.length) : (ps[0] ++ ((ps.tail.take k).map (sep ++ ·)).flatten).length ≤ sumLen ps + sep.length * ps.length := by
 cases ps with
 |nil => simp at h
 |cons p r =>
  show (joinB sep (p :: r.take k)).length ≤ _
  rw [joinB_len]
  have h1 := sumLen_take_le (p :: r) (k + 1)
  have h2 : sep.length * (r.take k).length ≤ sep.length * (p :: r).length := Nat.mul_le_mul_left _ (by simp; omega)
  simp only [List.take_succ_cons] at h1
  omega
theorem joinB_part_succ (sep : List UInt8) (ps : List (List UInt8)) (k : Nat) (h : k + 1 < ps.length) : (ps[0] ++ ((ps.tail.take (k + 1)).map (sep ++ ·)).flatten) = (ps[0] ++ ((ps.tail.take k).map (sep ++ ·)).flatten) ++ (sep ++ ps[k + 1]) := by
 rw [kAn (by simp; omega)]
 simp
theorem joinB_part_all (sep : List UInt8) (ps : List (List UInt8)) (h : 0 < ps.length) : (ps[0] ++ ((ps.tail.take (ps.length - 1)).map (sep ++ ·)).flatten) = joinB sep ps := by
 cases ps with
 |nil => simp at h
 |cons p r => simp [joinB]
set_option maxHeartbeats 1000000 in
theorem Join_spec {w : World} {a : Option Addr} {c : Nat} {ps : List (List UInt8)} {sep : List UInt8} (ha : Arr w [] a (ps.map Str)) (hc : ps.length ≤ c) (hcc : c ≤ 140737488355328) (hlen : sumLen ps + sep.length * ps.length ≤ 140737488355328) :
  Cl Tryz.prog f_strings_Join [.slice a ps.length c, Str sep] w fun v w' => v = Str (joinB sep ps) ∧ St w [] [] w' := by
 have hS := St.start w
 refine en_strings_Join rfl ?_
 by_cases h0 : ps.length = 0
 ·have : ps = [] := kCh.1 h0
  subst this
  refine jq ⟨?_⟩
  exact ⟨rfl, hS⟩
 obtain ⟨b, off, rfl, -, hc0⟩ := ha.get (j := 0) (by simp; omega)
 simp only [kCp, Nat.add_zero] at hc0
 by_cases h1 : ps.length = 1
 ·obtain ⟨p, rfl⟩ := kDk.1 h1
  refine jq ⟨?_⟩
  refine hS.ldOld (by simp) hc0 ?_
  refine jq ⟨?_⟩
  exact ⟨by simp [joinB], hS⟩
 have hsl : sep.length ≤ sep.length * ps.length := Nat.le_mul_of_pos_right _ (by omega)
 have hsm : sep.length * (ps.length - 1) ≤ sep.length * ps.length := Nat.mul_le_mul_left _ (by omega)
 have hk0 : ((ps.length : Int) - 1) = ((ps.length - 1 : Nat) : Int) := by omega
 have hdiv : (sep.length : Int) < (9223372036854775807 : Int).tdiv ((ps.length : Int) - 1) := by
  rw [hk0, show (9223372036854775807 : Int).tdiv ((ps.length - 1 : Nat) : Int) = ((9223372036854775807 / (ps.length - 1) : Nat) : Int) from (Int.ofNat_tdiv 9223372036854775807 (ps.length - 1)).symm]
  have : sep.length < 9223372036854775807 / (ps.length - 1) := by
   rw [Nat.lt_div_iff_mul_lt (by omega)]
   have : sep.length * (ps.length - 1) ≤ 140737488355328 := by omega
   omega
  omega
 have hmul : (sep.length : Int) * ((ps.length : Int) - 1) = ((sep.length * (ps.length - 1) : Nat) : Int) := by rw [hk0]; simp
 have hdlt : (9223372036854775807 : Int).tdiv ((ps.length : Int) - 1) ≤ 9223372036854775807 := by
  rw [hk0, show (9223372036854775807 : Int).tdiv ((ps.length - 1 : Nat) : Int) = ((9223372036854775807 / (ps.length - 1) : Nat) : Int) from (Int.ofNat_tdiv 9223372036854775807 (ps.length - 1)).symm]
  have := Nat.div_le_self 9223372036854775807 (ps.length - 1)
  omega
 generalize hD : (9223372036854775807 : Int).tdiv ((ps.length : Int) - 1) = D at hdiv hdlt
 have hD0 : 0 ≤ D := by omega
 generalize hM : (sep.length : Int) * ((ps.length : Int) - 1) = M at hmul
 generalize hSL : sep.length * ps.length = SL at hsl hsm hlen
 generalize hSM : sep.length * (ps.length - 1) = SM at hsm hmul
 -- the length without the separators
 by_cases hsep : sep.length = 0
 all_goals refine jq ⟨?_⟩
 all_goals try rw [hD]
 all_goals refine jq ⟨?_⟩
 all_goals try rw [hM]
 all_goals refine jq ⟨?_⟩
 ·refine SemW.loop (fun k : Nat => [(0, .slice (some ⟨b, off, none⟩) ps.length c), (1, Str sep), (39, .slice (some ⟨b, off, none⟩) ps.length c), (40, .int .i64 ps.length), (41, .int .i64 k), (5, .int .i64 (0 + sumLen (ps.take k)))]) (fun k w' => k ≤ ps.length ∧ w = w') (fun k => ps.length - k) 0
   ⟨rfl, rfl, rfl, rfl, rfl, (by show _ = (_ : Value); simp [sumLen]), trivial⟩ ⟨kAg _, rfl⟩ ?_
  rintro k _ ⟨hk, rfl⟩
  have htl := sumLen_take_le ps k
  by_cases hkl : k < ps.length
  ·have hst := sumLen_take ps k hkl
   have htl1 := sumLen_take_le ps (k + 1)
   refine jq ⟨?_⟩
   obtain ⟨b', off', hbb, -, hck⟩ := ha.get (j := k) (by simp; omega)
   cases hbb
   simp only [kCp] at hck
   refine hS.ldOld (by simp) (by simpa using hck) ?_
   refine jq ⟨?_⟩
   refine ⟨k + 1, ⟨rfl, rfl, rfl, rfl, rfl, ?_, trivial⟩, ⟨by omega, rfl⟩, by omega⟩
   show _ = (_ : Value)
   rw [hst]; congr 1; omega
  ·have hke : k = ps.length := by omega
   subst hke
   rw [kAr] at *
   refine jq ⟨?_⟩
   refine hS.al ?_
   intro bb w1 hbb hS
   refine jq ⟨?_⟩
   have e1 : (0 : Int) + (sumLen ps : Int) = (((0 : Int).toNat + sumLen ps : Nat) : Int) := by omega
   rw [e1]
   refine (Grow_spec ((0 : Int).toNat + sumLen ps) (by omega) hS.part).mono ?_
   rintro _ w2 ⟨rfl, L1, hB, hS'⟩
   have hS := hS.call (L := [(bb, .cells ⟨[.pointer none, .slice none 0 0]⟩ T_strings_Builder (0, 0))]) hS'
   refine jq ⟨?_⟩
   refine hS.ldOld (by simp) (by simpa using hc0) ?_
   refine jq ⟨?_⟩
   have hp0 := len_le_sumLen ps 0 (by omega)
   refine (WriteString_spec hB hS.holds (by simp; omega)).mono ?_
   rintro _ w3 ⟨rfl, L2, hB, hS'⟩
   have hS := hS.call hS'
   refine jq ⟨?_⟩
   refine SemW.loop (fun k : Nat => [(1, Str sep), (8, ptr bb), (63, .slice (subA b off 1 c 1) (ps.length - 1) (c - 1)), (64, .int .i64 (ps.length - 1 : Nat)), (65, .int .i64 k)]) (fun k w' => k ≤ ps.length - 1 ∧ ∃ L, Bld bb (ps[0] ++ ((ps.tail.take k).map (sep ++ ·)).flatten) L ∧ St w [] L w') (fun k => ps.length - k) 0
    ⟨rfl, rfl, rfl, rfl, rfl, trivial⟩ ⟨kAg _, _, by simpa using hB, hS⟩ ?_
   rintro k w4 ⟨hk, L3, hB, hS⟩
   have hsub : subA b off 1 c 1 = some ⟨b, off + 1, none⟩ := by unfold subA; rw [if_neg (by omega)]
   by_cases hkl : k < ps.length - 1
   ·have hkt : k < ps.tail.length := by simp; omega
    rw [hsub]
    refine jq ⟨?_⟩
    obtain ⟨b', off', hbb', -, hck⟩ := ha.get (j := k + 1) (by simp; omega)
    cases hbb'
    simp only [kCp] at hck
    refine hS.ldOld (by simp) (by simpa [kCs, Nat.add_comm 1 k] using hck) ?_
    refine jq ⟨?_⟩
    have hx := joinB_part sep ps (k + 1) (by omega)
    rw [hSL, joinB_part_succ sep ps k (by omega)] at hx
    simp only [kAa] at hx
    refine (WriteString_spec hB hS.holds (by simp only [kAa]; omega)).mono ?_
    rintro _ w5 ⟨rfl, L4, hB, hS'⟩
    have hS := hS.call hS'
    refine jq ⟨?_⟩
    refine (WriteString_spec hB hS.holds (by simp only [kAa]; omega)).mono ?_
    rintro _ w6 ⟨rfl, L5, hB, hS'⟩
    have hS := hS.call hS'
    refine jq ⟨?_⟩
    refine ⟨k + 1, ⟨rfl, rfl, rfl, rfl, rfl, trivial⟩, ⟨by omega, L5, ?_, hS⟩, by omega⟩
    rw [joinB_part_succ sep ps k (by omega)]
    simpa [kAc] using hB
   ·have hke : k = ps.length - 1 := by omega
    subst hke
    have hx := joinB_part sep ps (ps.length - 1) (by omega)
    rw [hSL] at hx
    rw [hsub]
    refine jq ⟨?_⟩
    refine (String_spec hB hS.holds (by omega)).mono ?_
    rintro _ w5 ⟨rfl, hS'⟩
    have hS := hS.call hS'
    refine jq ⟨?_⟩
    refine ⟨?_, hS⟩
    congr 3
    rw [joinB_part_all sep ps (by omega)]
 ·refine SemW.loop (fun k : Nat => [(0, .slice (some ⟨b, off, none⟩) ps.length c), (1, Str sep), (39, .slice (some ⟨b, off, none⟩) ps.length c), (40, .int .i64 ps.length), (41, .int .i64 k), (5, .int .i64 (0 + M + sumLen (ps.take k)))]) (fun k w' => k ≤ ps.length ∧ w = w') (fun k => ps.length - k) 0
   ⟨rfl, rfl, rfl, rfl, rfl, (by show _ = (_ : Value); simp [sumLen]), trivial⟩ ⟨kAg _, rfl⟩ ?_
  rintro k _ ⟨hk, rfl⟩
  have htl := sumLen_take_le ps k
  by_cases hkl : k < ps.length
  ·have hst := sumLen_take ps k hkl
   have htl1 := sumLen_take_le ps (k + 1)
   refine jq ⟨?_⟩
   obtain ⟨b', off', hbb, -, hck⟩ := ha.get (j := k) (by simp; omega)
   cases hbb
   simp only [kCp] at hck
   refine hS.ldOld (by simp) (by simpa using hck) ?_
   refine jq ⟨?_⟩
   refine ⟨k + 1, ⟨rfl, rfl, rfl, rfl, rfl, ?_, trivial⟩, ⟨by omega, rfl⟩, by omega⟩
   show _ = (_ : Value)
   rw [hst]; congr 1; omega
  ·have hke : k = ps.length := by omega
   subst hke
   rw [kAr] at *
   refine jq ⟨?_⟩
   refine hS.al ?_
   intro bb w1 hbb hS
   refine jq ⟨?_⟩
   have e1 : (0 + M : Int) + (sumLen ps : Int) = (((0 + M : Int).toNat + sumLen ps : Nat) : Int) := by omega
   rw [e1]
   refine (Grow_spec ((0 + M : Int).toNat + sumLen ps) (by omega) hS.part).mono ?_
   rintro _ w2 ⟨rfl, L1, hB, hS'⟩
   have hS := hS.call (L := [(bb, .cells ⟨[.pointer none, .slice none 0 0]⟩ T_strings_Builder (0, 0))]) hS'
   refine jq ⟨?_⟩
   refine hS.ldOld (by simp) (by simpa using hc0) ?_
   refine jq ⟨?_⟩
   have hp0 := len_le_sumLen ps 0 (by omega)
   refine (WriteString_spec hB hS.holds (by simp; omega)).mono ?_
   rintro _ w3 ⟨rfl, L2, hB, hS'⟩
   have hS := hS.call hS'
   refine jq ⟨?_⟩
   refine SemW.loop (fun k : Nat => [(1, Str sep), (8, ptr bb), (63, .slice (subA b off 1 c 1) (ps.length - 1) (c - 1)), (64, .int .i64 (ps.length - 1 : Nat)), (65, .int .i64 k)]) (fun k w' => k ≤ ps.length - 1 ∧ ∃ L, Bld bb (ps[0] ++ ((ps.tail.take k).map (sep ++ ·)).flatten) L ∧ St w [] L w') (fun k => ps.length - k) 0
    ⟨rfl, rfl, rfl, rfl, rfl, trivial⟩ ⟨kAg _, _, by simpa using hB, hS⟩ ?_
   rintro k w4 ⟨hk, L3, hB, hS⟩
   have hsub : subA b off 1 c 1 = some ⟨b, off + 1, none⟩ := by unfold subA; rw [if_neg (by omega)]
   by_cases hkl : k < ps.length - 1
   ·have hkt : k < ps.tail.length := by simp; omega
    rw [hsub]
    refine jq ⟨?_⟩
    obtain ⟨b', off', hbb', -, hck⟩ := ha.get (j := k + 1) (by simp; omega)
    cases hbb'
    simp only [kCp] at hck
    refine hS.ldOld (by simp) (by simpa [kCs, Nat.add_comm 1 k] using hck) ?_
    refine jq ⟨?_⟩
    have hx := joinB_part sep ps (k + 1) (by omega)
    rw [hSL, joinB_part_succ sep ps k (by omega)] at hx
    simp only [kAa] at hx
    refine (WriteString_spec hB hS.holds (by simp only [kAa]; omega)).mono ?_
    rintro _ w5 ⟨rfl, L4, hB, hS'⟩
    have hS := hS.call hS'
    refine jq ⟨?_⟩
    refine (WriteString_spec hB hS.holds (by simp only [kAa]; omega)).mono ?_
    rintro _ w6 ⟨rfl, L5, hB, hS'⟩
    have hS := hS.call hS'
    refine jq ⟨?_⟩
    refine ⟨k + 1, ⟨rfl, rfl, rfl, rfl, rfl, trivial⟩, ⟨by omega, L5, ?_, hS⟩, by omega⟩
    rw [joinB_part_succ sep ps k (by omega)]
    simpa [kAc] using hB
   ·have hke : k = ps.length - 1 := by omega
    subst hke
    have hx := joinB_part sep ps (ps.length - 1) (by omega)
    rw [hSL] at hx
    rw [hsub]
    refine jq ⟨?_⟩
    refine (String_spec hB hS.holds (by omega)).mono ?_
    rintro _ w5 ⟨rfl, hS'⟩
    have hS := hS.call hS'
    refine jq ⟨?_⟩
    refine ⟨?_, hS⟩
    congr 3
    rw [joinB_part_all sep ps (by omega)]
theorem und_int : Tryz.prog.underlying T_int = some (.int .i64) := und_of tblOk (t := T_int) rfl
theorem lookI {C : World → Prop} {m : Nat} {n : Int} {kvs : List (Int × Int)} (hm : ∀ w, C w → ∃ es clock, w.heap[m]? = some (.map es clock) ∧ MapOf intV intV es kvs) {K : Value → Prop} (hK : K (.int .i64 ((kget n kvs).getD 0))) :
  RdG Tryz.prog (Instr.lookup T_map_int_int (.map (some m)) (.int .i64 n) false) C K := by
 refine lookupMap tblOk KEnc.i64 rfl rfl und_int rfl (kvs := kvs) hm ?_
 have : ((kget n kvs).map intV).getD (.int .i64 0) = .int .i64 ((kget n kvs).getD 0) := by
  cases kget n kvs <;> rfl
 rw [← this] at hK; exact hK
def vfV (x : Bytes × Nat) : Value := .agg ⟨[Str x.1, .int .i64 x.2]⟩
structure FSm where
 files : List (Bytes × (Bytes × Nat))
 fates : List (Int × Int)
 armed : Nat
 acts : Nat
 off : Bool
inductive FateMap : Option Nat → List (Int × Int) → Heap → Prop where
 |nil : FateMap none [] []
 |made (f : Nat) (es : Array MapEntry) (c : Nat) (fs : List (Int × Int)) (h : MapC intV intV es c fs) : FateMap (some f) fs [(f, .map es c)]
inductive FSo (b : Nat) (m : FSm) : Heap → Prop where
 |mk (mf : Nat) (es : Array MapEntry) (c : Nat) (hes : MapC Str vfV es c m.files) (ft : Option Nat) (Lf : Heap) (hf : FateMap ft m.fates Lf) :
  FSo b m ((b, .cells ⟨[.map ft, .int .i64 m.armed, .int .i64 m.acts, .bool m.off, .map (some mf)]⟩ T_vfs_FS (0, 0)) :: (mf, .map es c) :: Lf)
theorem und_str : Tryz.prog.underlying T_string = some .string := und_of tblOk (t := T_string) rfl
theorem New_spec {w : World} : Cl Tryz.prog f_vfs_New [] w fun v w' => ∃ b L, v = ptr b ∧ w.heap.size ≤ b ∧ FSo b ⟨[], [], 0, 0, false⟩ L ∧ St w [] L w' := by
 have hS := St.start w
 refine en_vfs_New rfl ?_
 refine jq ⟨?_⟩
 refine hS.al ?_
 intro mf w1 _ hS
 refine jq ⟨?_⟩
 refine hS.al ?_
 intro b w2 hb hS
 refine jq ⟨?_⟩
 exact ⟨b, _, rfl, hb, FSo.mk (m := ⟨[], [], 0, 0, false⟩) mf #[] 0 ⟨rfl, by simp [Stamp]⟩ none [] FateMap.nil, hS⟩
theorem Down_spec {w : World} {b : Nat} {m : FSm} {L : Heap} (hF : FSo b m L) (hh : Holds L w) : Cl Tryz.prog f_vfs_power_Down [ptr b] w fun v w' => v = .bool m.off ∧ St w (keys L) L w' := by
 have hS := St.enter hh
 obtain ⟨mf, es, c, hes, ft, Lf, hf⟩ := hF
 refine en_vfs_power_Down rfl ?_
 (repeat (refine jt ⟨?_⟩; refine hS.st rfl rfl ?_; intro _ hS)); refine jt ⟨?_⟩
 exact ⟨rfl, hS⟩
theorem done_spec {w : World} {b : Nat} {m : FSm} {L : Heap} (hF : FSo b m L) (hh : Holds L w) : Cl Tryz.prog f_vfs_power_done [ptr b] w fun v w' => v = .int .i64 (if m.off then 7 else 0) ∧ St w (keys L) L w' := by
 have hS := St.enter hh
 obtain ⟨mf, es, c, hes, ft, Lf, hf⟩ := hF
 refine en_vfs_power_done rfl ?_
 (repeat (refine jt ⟨?_⟩; refine hS.st rfl rfl ?_; intro _ hS)); refine jt ⟨?_⟩
 refine BrG.bool (fun h => ?_) (fun h => ?_)
 ·(repeat (refine jt ⟨?_⟩; refine hS.st rfl rfl ?_; intro _ hS)); refine jt ⟨?_⟩
  exact ⟨by rw [h]; rfl, hS⟩
 ·(repeat (refine jt ⟨?_⟩; refine hS.st rfl rfl ?_; intro _ hS)); refine jt ⟨?_⟩
  exact ⟨by rw [h]; rfl, hS⟩
def named (s : Bytes) : Bool := decide (s ≠ []) && decide (s.length ≤ 40)
theorem named_spec {w : World} (s : Bytes) : Cl Tryz.prog f_vfs_named [Str s] w fun v w' => v = .bool (named s) ∧ St w [] [] w' := by
 have hS := St.start w
 refine en_vfs_named rfl ?_
 refine jq ⟨?_⟩
 refine BrG.dec (fun h => ?_) (fun h => ?_)
 ·refine jq ⟨?_⟩
  subst h
  exact ⟨rfl, hS⟩
 ·refine jq ⟨?_⟩
  refine ⟨?_, hS⟩
  unfold named
  rw [decide_eq_true h, Bool.true_and]
  exact congrArg Value.bool (decide_eq_decide.2 (by omega))
def fateOf (m : FSm) : Int := (kget (m.armed : Int) m.fates).getD 0
def acted (m : FSm) : FSm := { m with armed := m.armed + 1, acts := m.acts + 1, off := decide (fateOf m = 1) || decide (fateOf m = 2) }
theorem act_spec {w : World} {b : Nat} {m : FSm} {L : Heap} (hF : FSo b m L) (hh : Holds L w) (h1 : m.armed + 1 ≤ 9223372036854775807) (h2 : m.acts + 1 ≤ 9223372036854775807) :
  Cl Tryz.prog f_vfs_power_act [ptr b] w fun v w' => v = .int .i64 (fateOf m) ∧ ∃ L', FSo b (acted m) L' ∧ St w (keys L) L' w' := by
 have hS := St.enter hh
 obtain ⟨mf, es, c, hes, ft, Lf, hf⟩ := hF
 refine en_vfs_power_act rfl ?_
 refine jq ⟨?_⟩
 refine SemW.draw tblOk mixed (fun w' => St w (keys ((b, .cells ⟨[.map ft, .int .i64 m.armed, .int .i64 m.acts, .bool m.off, .map (some mf)]⟩ T_vfs_FS (0, 0)) :: (mf, .map es c) :: Lf)) ((b, .cells ⟨[.map ft, .int .i64 m.armed, .int .i64 m.acts, .bool m.off, .map (some mf)]⟩ T_vfs_FS (0, 0)) :: (mf, .map es c) :: Lf) w')
  [] [0, 1, 2, 3, 4, 5, 6, 7, 8, 9] (by kernel_rfl) hS.drew ?_
 have hS := hS.drew
 generalize w.drew = w1 at hS ⊢
 refine jr ⟨?_⟩
 have key : ∀ {K : Value → Prop}, K (.int .i64 (fateOf m)) → RdG Tryz.prog (Instr.lookup T_map_int_int (.map ft) (intV m.armed) false) (fun w' => St w (keys ((b, .cells ⟨[.map ft, .int .i64 m.armed, .int .i64 m.acts, .bool m.off, .map (some mf)]⟩ T_vfs_FS (0, 0)) :: (mf, .map es c) :: Lf)) ((b, .cells ⟨[.map ft, .int .i64 m.armed, .int .i64 m.acts, .bool m.off, .map (some mf)]⟩ T_vfs_FS (0, 0)) :: (mf, .map es c) :: Lf) w') K := by
  intro K hK
  generalize hfs : m.fates = fs at hf
  cases hf with
  |nil =>
   refine lookupNil tblOk KEnc.i64 rfl rfl und_int rfl ?_
   have : fateOf m = 0 := by unfold fateOf; rw [hfs]; rfl
   rw [this] at hK; exact hK
  |made f es' c' _ hm =>
   refine lookupMap tblOk KEnc.i64 rfl rfl und_int rfl (kvs := fs) (fun w' hw' => ⟨es', c', hw'.mem (b := f), hm.of⟩) ?_
   have : ((kget (m.armed : Int) fs).map intV).getD (.int .i64 0) = .int .i64 (fateOf m) := by
    unfold fateOf; rw [hfs]
    cases kget (m.armed : Int) fs <;> rfl
   rw [← this] at hK; exact hK
 refine key ?_
 generalize hfm : fateOf m = fm
 have fin : ∀ w', St w (keys ((b, .cells ⟨[.map ft, .int .i64 m.armed, .int .i64 m.acts, .bool m.off, .map (some mf)]⟩ T_vfs_FS (0, 0)) :: (mf, .map es c) :: Lf)) ((b, .cells ⟨[.map ft, .int .i64 (m.armed + 1 : Nat), .int .i64 (m.acts + 1 : Nat), .bool (decide (fm = 1) || decide (fm = 2)), .map (some mf)]⟩ T_vfs_FS (0, 0)) :: (mf, .map es c) :: Lf) w' →
   ∃ L', FSo b (acted m) L' ∧ St w (keys ((b, .cells ⟨[.map ft, .int .i64 m.armed, .int .i64 m.acts, .bool m.off, .map (some mf)]⟩ T_vfs_FS (0, 0)) :: (mf, .map es c) :: Lf)) L' w' := fun w' h =>
  ⟨_, FSo.mk (m := acted m) mf es c hes ft Lf hf, by unfold acted; rw [hfm]; exact h⟩
 (repeat (refine jt ⟨?_⟩; refine hS.st rfl rfl ?_; intro _ hS)); refine jt ⟨?_⟩
 refine BrG.dec (fun h => ?_) (fun h => ?_)
 ·subst h
  (repeat (refine jt ⟨?_⟩; refine hS.st rfl rfl ?_; intro _ hS)); refine jt ⟨?_⟩
  exact ⟨rfl, fin _ hS⟩
 ·have e1 : decide (fm = 1) = false := by simp [h]
  rw [e1] at fin
  (repeat (refine jt ⟨?_⟩; refine hS.st rfl rfl ?_; intro _ hS)); refine jt ⟨?_⟩
  exact ⟨rfl, fin _ hS⟩
def fget (m : FSm) (name : Bytes) : Option (Bytes × Nat) := kget name m.files
def findM (m : FSm) (name : Bytes) : (Bytes × Nat) × Int := if m.off then (([], 0), 7) else match fget m name with | none => (([], 0), 5) | some x => (x, 0)
theorem find_spec {w : World} {b : Nat} {m : FSm} {L : Heap} (hF : FSo b m L) (hh : Holds L w) (name : Bytes) :
  Cl Tryz.prog f_vfs_FS_find [ptr b, Str name] w fun v w' => v = .tuple ⟨[vfV (findM m name).1, .int .i64 (findM m name).2]⟩ ∧ St w (keys L) L w' := by
 have hS := St.enter hh
 obtain ⟨mf, es, c, hes, ft, Lf, hf⟩ := hF
 refine en_vfs_FS_find rfl ?_
 refine jq ⟨?_⟩
 refine hS.al ?_
 intro r w1 _ hS
 (repeat (refine jt ⟨?_⟩; refine hS.st rfl rfl ?_; intro _ hS)); refine jt ⟨?_⟩
 refine lookupMap tblOk KEnc.str rfl rfl und_str rfl (kvs := m.files) (fun w' hw' => ⟨es, c, by subst hw'; exact hS.mem (b := mf), hes.of⟩) ?_
 have hv : ∃ x : Bytes × Nat, ((kget name m.files).map vfV).getD (.agg ⟨[.string ⟨⟨[]⟩⟩, .int .i64 0]⟩) = .agg ⟨[Str x.1, .int .i64 x.2]⟩ ∧ ((kget name m.files).isSome = true → kget name m.files = some x) := by
  cases kget name m.files with
  |none => exact ⟨([], 0), rfl, nofun⟩
  |some x => exact ⟨x, rfl, fun _ => rfl⟩
 obtain ⟨x, hx1, hx2⟩ := hv
 have hx1' : ((kget name m.files).map vfV).getD (TI.zero ⟨.struct [(0, 1), (1, 1)], 2, 24, .agg ⟨[.string ⟨⟨[]⟩⟩, .int .i64 0]⟩⟩) = .agg ⟨[Str x.1, .int .i64 x.2]⟩ := hx1
 simp only [hx1']
 refine jq ⟨?_⟩
 refine hS.al ?_
 intro r2 w2 _ hS
 (repeat (refine jt ⟨?_⟩; refine hS.st rfl rfl ?_; intro _ hS)); refine jt ⟨?_⟩
 have hS := hS
 refine BrG.bool (fun h => ?_) (fun h => ?_)
 ·(repeat (refine jt ⟨?_⟩; refine hS.st rfl rfl ?_; intro _ hS)); refine jt ⟨?_⟩
  have e : findM m name = (([], 0), 7) := by unfold findM; rw [h]; rfl
  rw [e]
  exact ⟨rfl, hS.sub (((List.Sublist.refl _).cons _).cons _)⟩
 ·(repeat (refine jt ⟨?_⟩; refine hS.st rfl rfl ?_; intro _ hS)); refine jt ⟨?_⟩
  refine BrG.bool (fun h2 => ?_) (fun h2 => ?_)
  ·have e : findM m name = (x, 0) := by unfold findM fget; rw [h, hx2 h2]; rfl
   rw [e]
   (repeat (refine jt ⟨?_⟩; refine hS.st rfl rfl ?_; intro _ hS)); refine jt ⟨?_⟩
   exact ⟨rfl, hS.sub (((List.Sublist.refl _).cons _).cons _)⟩
  ·have hn : kget name m.files = none := by simpa using h2
   have e : findM m name = (([], 0), 5) := by unfold findM fget; rw [h, hn]; rfl
   rw [e]
   (repeat (refine jt ⟨?_⟩; refine hS.st rfl rfl ?_; intro _ hS)); refine jt ⟨?_⟩
   exact ⟨rfl, hS.sub (((List.Sublist.refl _).cons _).cons _)⟩
theorem FRead_spec {w : World} {b : Nat} {m : FSm} {L : Heap} (hF : FSo b m L) (hh : Holds L w) (name : Bytes) :
  Cl Tryz.prog f_vfs_FS_Read [ptr b, Str name] w fun v w' => v = .tuple ⟨[Str (findM m name).1.1, .int .i64 (findM m name).2]⟩ ∧ St w (keys L) L w' := by
 refine en_vfs_FS_Read rfl ?_
 refine jq ⟨?_⟩
 refine (find_spec hF hh name).mono ?_
 rintro _ w1 ⟨rfl, hS⟩
 refine jq ⟨?_⟩
 refine hS.al ?_
 intro r w2 _ hS
 (repeat (refine jt ⟨?_⟩; refine hS.st rfl rfl ?_; intro _ hS)); refine jt ⟨?_⟩
 exact ⟨rfl, hS.sub (kAb _ _)⟩
theorem lookupFile {C : World → Prop} {mf : Nat} {name : Bytes} {fs : List (Bytes × (Bytes × Nat))} (hm : ∀ w, C w → ∃ es clock, w.heap[mf]? = some (.map es clock) ∧ MapOf Str vfV es fs) {K : Value → Prop}
  (hK : K (vfV ((kget name fs).getD ([], 0)))) : RdG Tryz.prog (Instr.lookup T_map_string_vfs_file (.map (some mf)) (Str name) false) C K := by
 refine lookupMap tblOk KEnc.str rfl rfl und_str rfl hm ?_
 cases h : kget name fs with
 |none => rw [h] at hK; exact hK
 |some x => rw [h] at hK; exact hK
def appendM (m : FSm) (name : Bytes) (ps : List Bytes) : Int × FSm :=
 if m.off then (7, m)
 else if !named name then (4, m)
 else if fateOf m = 3 then (6, acted m)
 else if fateOf m = 1 then (7, acted m)
 else (if (acted m).off then 7 else 0, { acted m with files := kput name (((fget m name).getD ([], 0)).1 ++ ps.flatten, ((fget m name).getD ([], 0)).2) m.files })
set_option maxHeartbeats 1000000 in
theorem Append_spec {w : World} {b : Nat} {m : FSm} {L : Heap} (hF : FSo b m L) (hh : Holds L w) (name : Bytes) {a : Option Addr} {cap : Nat} {ps : List Bytes} (ha : Arr w (keys L) a (ps.map Str))
  (hc : ps.length ≤ cap) (hcc : cap ≤ 140737488355328) (hlen : sumLen ps + ((fget m name).getD ([], 0)).1.length ≤ 140737488355328) (h1 : m.armed + 1 ≤ 9223372036854775807) (h2 : m.acts + 1 ≤ 9223372036854775807) :
  Cl Tryz.prog f_vfs_FS_Append [ptr b, Str name, .slice a ps.length cap] w fun v w' => v = .int .i64 (appendM m name ps).1 ∧ ∃ L', FSo b (appendM m name ps).2 L' ∧ St w (keys L) L' w' := by
 have hS := St.enter hh
 refine en_vfs_FS_Append rfl ?_
 unfold appendM
 have hoff : ∃ mf es c, ∃ (_ : MapC Str vfV es c m.files), ∃ ft Lf, ∃ (_ : FateMap ft m.fates Lf), L = (b, .cells ⟨[.map ft, .int .i64 m.armed, .int .i64 m.acts, .bool m.off, .map (some mf)]⟩ T_vfs_FS (0, 0)) :: (mf, .map es c) :: Lf := by
  obtain ⟨mf, es, c, hes, ft, Lf, hf⟩ := hF; exact ⟨mf, es, c, hes, ft, Lf, hf, rfl⟩
 obtain ⟨mf, es, c, hes, ft, Lf, hf, hL⟩ := hoff
 have hSL := hS
 rw [hL] at hSL
 have hS0 := hS
 have hS := hSL
 (repeat (refine jt ⟨?_⟩; refine hS.st rfl rfl ?_; intro _ hS)); refine jt ⟨?_⟩
 have hS := hS0
 by_cases hoff : m.off = true
 ·rw [if_pos hoff]
  refine BrG.eqt hoff ?_
  refine jq ⟨?_⟩
  exact ⟨rfl, L, hF, hS⟩
 ·have hoff' : m.off = false := by simpa using hoff
  rw [if_neg hoff]
  refine BrG.eqf hoff' ?_
  refine jq ⟨?_⟩
  refine (named_spec name).mono ?_
  rintro _ w1 ⟨rfl, hS'⟩
  have hS := hS.call0 hS'
  refine jq ⟨?_⟩
  by_cases hnm : named name = true
  ·refine BrG.eqt hnm ?_
   rw [hnm]
   refine jq ⟨?_⟩
   refine (act_spec hF hS.holds h1 h2).mono ?_
   rintro _ w2 ⟨rfl, L1, hF1, hS'⟩
   have hS := hS.call hS'
   refine jq ⟨?_⟩
   by_cases h3 : fateOf m = 3
   ·rw [if_neg (by simp), if_pos h3]
    refine jq ⟨?_⟩
    exact ⟨rfl, L1, hF1, hS⟩
   ·rw [if_neg (by simp), if_neg h3]
    refine jq ⟨?_⟩
    by_cases h4 : fateOf m = 1
    ·rw [if_pos h4]
     refine jq ⟨?_⟩
     exact ⟨rfl, L1, hF1, hS⟩
    ·rw [if_neg h4]
     obtain ⟨x, hx⟩ : ∃ x, (fget m name).getD ([], 0) = x := ⟨_, rfl⟩
     rw [hx] at hlen ⊢
     obtain ⟨mf1, es1, c1, hes1, ft1, Lf1, hf1⟩ := hF1
     have ha0 := ha
     generalize keys L = T0 at hS ha0 ⊢
     generalize hac : (acted m).off = off1 at hS ⊢
     (repeat (refine jt ⟨?_⟩; refine hS.st rfl rfl ?_; intro _ hS)); refine jt ⟨?_⟩
     refine lookupFile (fun w' hw' => ⟨es1, c1, by subst hw'; exact hS.mem (b := mf1), hes1.of⟩) ?_
     rw [show (kget name (acted m).files).getD ([], 0) = x from hx]
     refine jq ⟨?_⟩
     refine hS.al ?_
     intro r w3 _ hS
     (repeat (refine jt ⟨?_⟩; refine hS.st rfl rfl ?_; intro _ hS)); refine jt ⟨?_⟩
     refine SemW.draw tblOk mixed (fun w' => St w T0 ((r, .cells ⟨[Str x.1, .int .i64 x.2]⟩ T_vfs_file (0, 0)) :: (b, .cells ⟨[.map ft1, .int .i64 (acted m).armed, .int .i64 (acted m).acts, .bool off1, .map (some mf1)]⟩ T_vfs_FS (0, 0)) :: (mf1, .map es1 c1) :: Lf1) w')
      [6] [0, 1, 2, 3, 4, 5, 6] (by kernel_rfl) hS.drew ?_
     have hS := hS.drew
     refine jr ⟨?_⟩
     refine (Join_spec (sep := []) ((hS.arrOld ha0).sub (by simp)) hc hcc (by simp; omega)).mono ?_
     rintro _ w4 ⟨rfl, hS'⟩
     have hS := hS.call0 hS'
     refine Chk.mk hS ?_
     rw [joinB_nil]
     refine Chk.mk (by rw [show ps.flatten.length = sumLen ps from by simp [sumLen, List.length_flatten]]; omega) ?_
     (repeat (refine jt ⟨?_⟩; refine hS.st rfl rfl ?_; intro _ hS)); refine jt ⟨?_⟩
     refine SemW.draw tblOk mixed (fun w' => St w T0 ((r, .cells ⟨[Str (x.1 ++ ps.flatten), .int .i64 x.2]⟩ T_vfs_file (0, 0)) :: (b, .cells ⟨[.map ft1, .int .i64 (acted m).armed, .int .i64 (acted m).acts, .bool off1, .map (some mf1)]⟩ T_vfs_FS (0, 0)) :: (mf1, .map es1 c1) :: Lf1) w')
      [6] [0, 1, 2, 3, 4, 5, 6] (by kernel_rfl) hS.drew ?_
     have hS := hS.drew
     refine jr ⟨?_⟩
     refine St.mapSet tblOk KEnc.str rfl rfl und_str hS (v := (x.1 ++ ps.flatten, x.2)) hes1 ?_
     intro es2 c2 w5 hes2 hS
     have hS := hS.sub (kAb _ _)
     refine jq ⟨?_⟩
     have hF2 := FSo.mk (b := b) (m := { acted m with files := kput name (x.1 ++ ps.flatten, x.2) m.files }) mf1 es2 c2 hes2 ft1 Lf1 hf1
     subst hac
     refine (done_spec hF2 hS.holds).mono ?_
     rintro _ w6 ⟨rfl, hS'⟩
     have hS := hS.call hS'
     refine jq ⟨?_⟩
     exact ⟨rfl, _, hF2, hS⟩
  ·have hnm' : named name = false := by simpa using hnm
   refine BrG.eqf hnm' ?_
   rw [hnm']
   refine jq ⟨?_⟩
   exact ⟨rfl, L, hF, hS⟩
def syncM (m : FSm) (name : Bytes) : Int × FSm :=
 if (findM m name).2 ≠ 0 then ((findM m name).2, m)
 else (if (acted m).off then 7 else 0, if fateOf m = 1 then acted m else { acted m with files := kput name ((findM m name).1.1, (findM m name).1.1.length) m.files })
set_option maxHeartbeats 1000000 in
theorem Sync_spec {w : World} {b : Nat} {m : FSm} {L : Heap} (hF : FSo b m L) (hh : Holds L w) (name : Bytes) (h1 : m.armed + 1 ≤ 9223372036854775807) (h2 : m.acts + 1 ≤ 9223372036854775807) :
  Cl Tryz.prog f_vfs_FS_Sync [ptr b, Str name] w fun v w' => v = .int .i64 (syncM m name).1 ∧ ∃ L', FSo b (syncM m name).2 L' ∧ St w (keys L) L' w' := by
 refine en_vfs_FS_Sync rfl ?_
 unfold syncM
 refine jq ⟨?_⟩
 refine (find_spec hF hh name).mono ?_
 rintro _ w1 ⟨rfl, hS⟩
 generalize findM m name = y
 obtain ⟨x, e⟩ := y
 refine jq ⟨?_⟩
 refine hS.al ?_
 intro r w2 _ hS
 (repeat (refine jt ⟨?_⟩; refine hS.st rfl rfl ?_; intro _ hS)); refine jt ⟨?_⟩
 by_cases he : e = 0
 ·subst he
  rw [if_neg (by simp)]
  refine jq ⟨?_⟩
  refine (act_spec hF (hS.part (L := L)) h1 h2).mono ?_
  rintro _ w3 ⟨rfl, L1, hF1, hS'⟩
  have hS := hS.call (L := L) hS'
  generalize keys L = T0 at hS ⊢
  by_cases h4 : fateOf m = 1
  ·rw [if_pos h4]
   refine jq ⟨?_⟩
   refine (done_spec hF1 (hS.part (L := L1))).mono ?_
   rintro _ w6 ⟨rfl, hS'⟩
   have hS := hS.call (L := L1) hS'
   refine jq ⟨?_⟩
   exact ⟨rfl, _, hF1, hS.sub (kAb _ _)⟩
  ·rw [if_neg h4]
   obtain ⟨mf1, es1, c1, hes1, ft1, Lf1, hf1⟩ := hF1
   generalize hac : (acted m).off = off1 at hS ⊢
   (repeat (refine jt ⟨?_⟩; refine hS.st rfl rfl ?_; intro _ hS)); refine jt ⟨?_⟩
   refine SemW.draw tblOk mixed (fun w' => St w T0 ((r, .cells ⟨[Str x.1, .int .i64 x.1.length]⟩ T_vfs_file (0, 0)) :: (b, .cells ⟨[.map ft1, .int .i64 (acted m).armed, .int .i64 (acted m).acts, .bool off1, .map (some mf1)]⟩ T_vfs_FS (0, 0)) :: (mf1, .map es1 c1) :: Lf1) w')
    [6] [0, 1, 2, 3, 4, 5, 6] (by kernel_rfl) hS.drew ?_
   have hS := hS.drew
   refine jr ⟨?_⟩
   refine St.mapSet tblOk KEnc.str rfl rfl und_str hS (v := (x.1, x.1.length)) hes1 ?_
   intro es2 c2 w5 hes2 hS
   have hS := hS.sub (kAb _ _)
   refine jq ⟨?_⟩
   have hF2 := FSo.mk (b := b) (m := { acted m with files := kput name (x.1, x.1.length) m.files }) mf1 es2 c2 hes2 ft1 Lf1 hf1
   subst hac
   refine (done_spec hF2 hS.holds).mono ?_
   rintro _ w6 ⟨rfl, hS'⟩
   have hS := hS.call hS'
   refine jq ⟨?_⟩
   exact ⟨rfl, _, hF2, hS⟩
 ·rw [if_pos he]
  refine jq ⟨?_⟩
  exact ⟨rfl, L, hF, hS.sub (kAb _ _)⟩
def deleteM (m : FSm) (name : Bytes) : Int × FSm :=
 if (findM m name).2 ≠ 0 then ((findM m name).2, m)
 else (if (acted m).off then 7 else 0, if fateOf m = 1 then acted m else { acted m with files := kdel name m.files })
set_option maxHeartbeats 1000000 in
theorem Delete_spec {w : World} {b : Nat} {m : FSm} {L : Heap} (hF : FSo b m L) (hh : Holds L w) (name : Bytes) (h1 : m.armed + 1 ≤ 9223372036854775807) (h2 : m.acts + 1 ≤ 9223372036854775807) :
  Cl Tryz.prog f_vfs_FS_Delete [ptr b, Str name] w fun v w' => v = .int .i64 (deleteM m name).1 ∧ ∃ L', FSo b (deleteM m name).2 L' ∧ St w (keys L) L' w' := by
 refine en_vfs_FS_Delete rfl ?_
 unfold deleteM
 refine jq ⟨?_⟩
 refine (find_spec hF hh name).mono ?_
 rintro _ w1 ⟨rfl, hS⟩
 generalize findM m name = y
 obtain ⟨x, e⟩ := y
 refine jq ⟨?_⟩
 refine hS.al ?_
 intro r w2 _ hS
 (repeat (refine jt ⟨?_⟩; refine hS.st rfl rfl ?_; intro _ hS)); refine jt ⟨?_⟩
 by_cases he : e = 0
 ·subst he
  rw [if_neg (by simp)]
  refine jq ⟨?_⟩
  refine (act_spec hF (hS.part (L := L)) h1 h2).mono ?_
  rintro _ w3 ⟨rfl, L1, hF1, hS'⟩
  have hS := hS.call (L := L) hS'
  generalize keys L = T0 at hS ⊢
  by_cases h4 : fateOf m = 1
  ·rw [if_pos h4]
   refine jq ⟨?_⟩
   refine (done_spec hF1 (hS.part (L := L1))).mono ?_
   rintro _ w6 ⟨rfl, hS'⟩
   have hS := hS.call (L := L1) hS'
   refine jq ⟨?_⟩
   exact ⟨rfl, _, hF1, hS.sub (kAb _ _)⟩
  ·rw [if_neg h4]
   obtain ⟨mf1, es1, c1, hes1, ft1, Lf1, hf1⟩ := hF1
   generalize hac : (acted m).off = off1 at hS ⊢
   (repeat (refine jt ⟨?_⟩; refine hS.st rfl rfl ?_; intro _ hS)); refine jt ⟨?_⟩
   refine St.mapDel tblOk KEnc.str rfl rfl und_str hS hes1 ?_
   intro es2 c2 w5 hes2 hS
   have hS := hS.sub (kAb _ _)
   refine jq ⟨?_⟩
   have hF2 := FSo.mk (b := b) (m := { acted m with files := kdel name m.files }) mf1 es2 c2 hes2 ft1 Lf1 hf1
   subst hac
   refine (done_spec hF2 hS.holds).mono ?_
   rintro _ w6 ⟨rfl, hS'⟩
   have hS := hS.call hS'
   refine jq ⟨?_⟩
   exact ⟨rfl, _, hF2, hS⟩
 ·rw [if_pos he]
  refine jq ⟨?_⟩
  exact ⟨rfl, L, hF, hS.sub (kAb _ _)⟩
end Go.Proofs.YtkgibdhpijdbfaaGreatDoor
namespace Go.Proofs.YtkgibdhpijdbfaaGreatDoor
open Go Go.Eng Go.Proofs
section
variable {κ α β : Type} [DecidableEq κ]
theorem kget_mem {k : κ} {v : α} : ∀ {l : List (κ × α)}, kget k l = some v → (k, v) ∈ l
 |[], h => by cases h
 |(a, u) :: r, h => by
  unfold kget at h
  split at h
  ·rename_i e; subst e; cases h; exact kAt
  ·exact kAs _ (kget_mem h)
theorem kget_none {k : κ} : ∀ {l : List (κ × α)}, kget k l = none ↔ k ∉ l.map (·.1)
 |[] => by simp [kget]
 |(a, u) :: r => by
  unfold kget
  split
  ·rename_i e; subst e; simp
  ·rename_i e
   rw [kget_none (l := r)]; simp [e]
theorem kget_of_mem {k : κ} {v : α} : ∀ {l : List (κ × α)}, (l.map (·.1)).Nodup → (k, v) ∈ l → kget k l = some v
 |[], _, h => by cases h
 |(a, u) :: r, hn, h => by
  rw [kAh, kBq] at hn
  unfold kget
  rcases kAf.1 h with e | h
  ·cases e; rw [if_pos rfl]
  ·have : k ≠ a := fun e => hn.1 (by rw [← e]; exact kAw (f := (·.1)) h)
   rw [if_neg this]; exact kget_of_mem hn.2 h
theorem kput_mem {k : κ} {v : α} : ∀ {l : List (κ × α)} {x : κ × α}, x ∈ kput k v l → x = (k, v) ∨ x ∈ l
 |[], x, h => by simp [kput] at h; exact .inl h
 |(a, u) :: r, x, h => by
  unfold kput at h
  split at h
  ·rcases kAf.1 h with h | h
   ·exact .inl h
   ·exact .inr (kAs _ h)
  ·rcases kAf.1 h with h | h
   ·exact .inr (by rw [h]; exact kAt)
   ·rcases kput_mem h with h | h
    ·exact .inl h
    ·exact .inr (kAs _ h)
theorem kput_keys {k : κ} {v : α} : ∀ {l : List (κ × α)} {x : κ}, x ∈ (kput k v l).map (·.1) ↔ x = k ∨ x ∈ l.map (·.1)
 |[], x => by simp [kput]
 |(a, u) :: r, x => by
  unfold kput
  split
  ·rename_i e; subst e; simp
  ·rw [kAh, kAf, kput_keys (l := r), kAh, kAf]; grind
theorem kput_nodup {k : κ} {v : α} : ∀ {l : List (κ × α)}, (l.map (·.1)).Nodup → ((kput k v l).map (·.1)).Nodup
 |[], _ => by simp [kput]
 |(a, u) :: r, h => by
  unfold kput
  split
  ·rename_i e; subst e; exact h
  ·rename_i e
   rw [kAh, kBq] at h ⊢
   refine ⟨fun hm => ?_, kput_nodup h.2⟩
   rcases kput_keys.1 hm with h' | h'
   ·exact e h'.symm
   ·exact h.1 h'
theorem kput_len (k : κ) (v : α) : ∀ l : List (κ × α), (kput k v l).length ≤ l.length + 1
 |[] => by simp [kput]
 |(a, u) :: r => by
  unfold kput
  split
  ·simp
  ·have := kput_len k v r; simp only [kAe]; omega
theorem kput_new {k : κ} {v : α} : ∀ {l : List (κ × α)}, k ∉ l.map (·.1) → kput k v l = l ++ [(k, v)]
 |[], _ => rfl
 |(a, u) :: r, h => by
  rw [kAh, kAf, not_or] at h
  unfold kput
  rw [if_neg h.1, kput_new h.2]; rfl
theorem kdel_sub (k : κ) : ∀ l : List (κ × α), (kdel k l).Sublist l
 |[] => List.nil_sublist _
 |(a, u) :: r => by
  unfold kdel
  split
  ·exact kAb _ _
  ·exact (kdel_sub k r).cons_cons _
theorem kdel_nodup {k : κ} {l : List (κ × α)} (h : (l.map (·.1)).Nodup) : ((kdel k l).map (·.1)).Nodup := h.sublist ((kdel_sub k l).map _)
theorem kdel_get (k j : κ) : ∀ {l : List (κ × α)}, (l.map (·.1)).Nodup → kget j (kdel k l) = if j = k then none else kget j l
 |[], _ => by simp [kdel, kget]
 |(a, u) :: r, h => by
  rw [kAh, kBq] at h
  unfold kdel
  split
  ·rename_i e; subst e
   split
   ·rename_i e; subst e; exact kget_none.2 h.1
   ·rename_i e
    rw [kget, if_neg e]
  ·rename_i e
   unfold kget
   rw [kdel_get k j h.2]
   split
   ·rename_i e2; subst e2
    rw [if_neg (fun e3 => e e3.symm)]
   ·rfl
end
end Go.Proofs.YtkgibdhpijdbfaaGreatDoor
namespace Go.Proofs.YtkgibdhpijdbfaaGreatDoor
open Go Go.Eng Go.Proofs
structure FB (A : Nat) (m : FSm) : Prop where
 armed : m.armed ≤ A
 acts : m.acts ≤ A
 num : m.files.length ≤ A
 nd : (m.files.map (·.1)).Nodup
 name : ∀ x ∈ m.files, x.1.length ≤ 40
 text : ∀ x ∈ m.files, x.2.1.length ≤ 1099511627776
theorem FB.mono {A B : Nat} {m : FSm} (h : FB A m) (hl : A ≤ B) : FB B m := ⟨kBb h.armed hl, kBb h.acts hl, kBb h.num hl, h.nd, h.name, h.text⟩
theorem FB.get {A : Nat} {m : FSm} (h : FB A m) (n : Bytes) : ((fget m n).getD ([], 0)).1.length ≤ 1099511627776 := by
 cases e : fget m n with
 |none => simp
 |some x => exact h.text _ (kget_mem e)
theorem FB.find {A : Nat} {m : FSm} (h : FB A m) (n : Bytes) : (findM m n).1.1.length ≤ 1099511627776 := by
 have := h.get n
 unfold findM
 split
 ·simp
 ·cases e : fget m n with
  |none => simp
  |some x => rw [e] at this; exact this
theorem FB.acted {A : Nat} {m : FSm} (h : FB A m) : FB (A + 1) (acted m) := ⟨Nat.succ_le_succ h.armed, Nat.succ_le_succ h.acts, Nat.le_succ_of_le h.num, h.nd, h.name, h.text⟩
theorem FB.put {A : Nat} {m : FSm} (h : FB A m) {n : Bytes} {x : Bytes × Nat} (hn : n.length ≤ 40) (hx : x.1.length ≤ 1099511627776) : FB (A + 1) { Proofs.YtkgibdhpijdbfaaGreatDoor.acted m with files := kput n x m.files } :=
 ⟨h.acted.armed, h.acted.acts, kBb (kput_len _ _ _) (Nat.succ_le_succ h.num), kput_nodup h.nd, fun y hy => (kput_mem hy).elim (fun e => by rw [e]; exact hn) (h.name y), fun y hy => (kput_mem hy).elim (fun e => by rw [e]; exact hx) (h.text y)⟩
theorem FB.dele {A : Nat} {m : FSm} (h : FB A m) (n : Bytes) : FB (A + 1) { Proofs.YtkgibdhpijdbfaaGreatDoor.acted m with files := kdel n m.files } :=
 ⟨h.acted.armed, h.acted.acts, kBb (kdel_sub n _).length_le h.acted.num, kdel_nodup h.nd, fun y hy => h.name y ((kdel_sub n _).mem hy), fun y hy => h.text y ((kdel_sub n _).mem hy)⟩
theorem named_len {n : Bytes} (h : named n = true) : n.length ≤ 40 := by
 unfold named at h; simp at h; exact h.2
theorem FB.del {A : Nat} {m : FSm} (h : FB A m) (n : Bytes) : FB (A + 1) (deleteM m n).2 := by
 unfold deleteM
 split
 ·exact h.mono (kBr _)
 ·simp only
  split
  ·exact h.acted
  ·exact h.dele n
theorem FB.app {A : Nat} {m : FSm} (h : FB A m) (n : Bytes) (ps : List Bytes) (hl : ((fget m n).getD ([], 0)).1.length + ps.flatten.length ≤ 1099511627776) : FB (A + 1) (appendM m n ps).2 := by
 unfold appendM
 split
 ·exact h.mono (kBr _)
 split
 ·exact h.mono (kBr _)
 rename_i hn
 split
 ·exact h.acted
 split
 ·exact h.acted
 ·exact h.put (named_len (by simpa using hn)) (by simpa using hl)
theorem find_named {A : Nat} {m : FSm} (h : FB A m) {n : Bytes} (hf : (findM m n).2 = 0) : n.length ≤ 40 := by
 unfold findM at hf
 split at hf
 ·simp at hf
 ·cases e : fget m n with
  |none => rw [e] at hf; simp at hf
  |some x => exact h.name _ (kget_mem e)
theorem FB.sync {A : Nat} {m : FSm} (h : FB A m) (n : Bytes) : FB (A + 1) (syncM m n).2 := by
 unfold syncM
 split
 ·exact h.mono (kBr _)
 rename_i hf
 have hf : (findM m n).2 = 0 := by simpa using hf
 simp only
 split
 ·exact h.acted
 ·exact h.put (find_named h hf) (h.find n)
def renameM (m : FSm) (a b : Bytes) : Int × FSm :=
 if m.off = false ∧ named b = false then (4, m)
 else if (findM m a).2 ≠ 0 then ((findM m a).2, m)
 else (if (acted m).off then 7 else 0, if fateOf m = 1 then acted m else { acted m with files := kput b (findM m a).1 (kdel a m.files) })
theorem FB.ren {A : Nat} {m : FSm} (h : FB A m) (a b : Bytes) : FB (A + 1) (renameM m a b).2 := by
 unfold renameM
 split
 ·exact h.mono (kBr _)
 rename_i hn
 split
 ·exact h.mono (kBr _)
 rename_i hf
 have hf : (findM m a).2 = 0 := by simpa using hf
 have hoff : m.off = false := by
  cases e : m.off with
  |false => rfl
  |true => unfold findM at hf; rw [e] at hf; simp at hf
 have hnb : named b = true := by
  cases e : named b with
  |true => rfl
  |false => exact absurd ⟨hoff, e⟩ hn
 simp only
 split
 ·exact h.acted
 ·have hd : FB A { m with files := kdel a m.files } := ⟨h.armed, h.acts, kBb (kdel_sub a _).length_le h.num, kdel_nodup h.nd, fun y hy => h.name y ((kdel_sub a _).mem hy), fun y hy => h.text y ((kdel_sub a _).mem hy)⟩
  have := hd.put (n := b) (x := (findM m a).1) (named_len hnb) (h.find a)
  exact this
def fileM (m : FSm) (nm t : Bytes) : Int × FSm :=
 if (deleteM m nm).1 ≠ 0 ∧ (deleteM m nm).1 ≠ 5 then deleteM m nm
 else if (appendM (deleteM m nm).2 nm [t]).1 ≠ 0 then appendM (deleteM m nm).2 nm [t]
 else syncM (appendM (deleteM m nm).2 nm [t]).2 nm
def rewriteM (m : FSm) (nm : Bytes) (ps : List Bytes) : Int × FSm := if okLens ps then fileM m nm (sealB ps) else (2, m)
theorem del_gone {m : FSm} {n : Bytes} (hnd : (m.files.map (·.1)).Nodup) (h : (deleteM m n).1 = 0 ∨ (deleteM m n).1 = 5) : fget (deleteM m n).2 n = none := by
 unfold deleteM at h ⊢
 split
 ·rename_i hf
  rw [if_pos hf] at h
  simp only at h ⊢
  unfold findM at h hf
  split at h
  ·simp at h
  ·cases e : fget m n with
   |none => rfl
   |some x => rename_i ho; rw [if_neg ho] at hf; rw [e] at hf; simp at hf
 ·rename_i hf
  rw [if_neg hf] at h
  simp only at h ⊢
  split
  ·rename_i h1
   exfalso
   have : (acted m).off = true := by unfold acted; simp [h1]
   rw [this] at h; simp at h
  ·unfold fget; rw [kdel_get _ _ hnd, if_pos rfl]
theorem FB.file {A : Nat} {m : FSm} (h : FB A m) (n t : Bytes) (ht : t.length ≤ 1099511627776) : FB (A + 3) (fileM m n t).2 := by
 unfold fileM
 split
 ·exact (h.del n).mono (by omega)
 rename_i hd
 have hg := del_gone (n := n) h.nd (by omega)
 have ha := (h.del n).app n [t] (by rw [hg]; simpa using ht)
 split
 ·exact ha.mono (by omega)
 ·exact ha.sync n
theorem FB.rewrite {A : Nat} {m : FSm} (h : FB A m) (n : Bytes) (ps : List Bytes) (ht : (sealB ps).length ≤ 1099511627776) : FB (A + 3) (rewriteM m n ps).2 := by
 unfold rewriteM
 split
 ·exact h.file n _ ht
 ·exact h.mono (by omega)
def firstM (t : List UInt8) (k : Nat) : List UInt8 × Nat × Int :=
 if t.length < k + 8 then ([], 0, 1)
 else if 65536 < num4 (t.drop k) ∨ (t.drop k).length < num4 (t.drop k) + 8 then ([], 0, 1)
 else if crcN [(t.drop k).take 4, ((t.drop k).take (8 + num4 (t.drop k))).drop 8] = num4 ((t.drop k).drop 4) then (((t.drop k).take (8 + num4 (t.drop k))).drop 8, k + 8 + num4 (t.drop k), 0)
 else ([], 0, 1)
set_option maxHeartbeats 1000000 in
theorem First_spec {w : World} (t : List UInt8) (k : Nat) (ht : t.length ≤ 140737488355328) (hk : k ≤ t.length) :
  Cl Tryz.prog f_frame_First [Str t, .int .i64 k] w fun v w' => v = .tuple ⟨[Str (firstM t k).1, .int .i64 (firstM t k).2.1, .int .i64 (firstM t k).2.2]⟩ ∧ St w [] [] w' := by
 have hS := St.start w
 refine en_frame_First rfl ?_
 unfold firstM
 by_cases h1 : t.length < k + 8
 ·rw [if_pos h1]
  refine jq ⟨?_⟩
  exact ⟨rfl, hS⟩
 ·rw [if_neg h1]
  refine jq ⟨?_⟩
  refine (number_spec (t.drop k) (by simp; omega)).mono ?_
  rintro _ w1 ⟨rfl, hS'⟩
  have hS := hS.call0 hS'
  have hrl : (t.drop k).length = t.length - k := by simp
  rw [show List.drop (k : Int).toNat t = t.drop k from rfl]
  generalize t.drop k = rest at hrl ⊢
  have hn := num4_lt rest
  generalize num4 rest = n at hn ⊢
  by_cases h2 : 65536 < n
  ·rw [if_pos (.inl h2)]
   refine jq ⟨?_⟩
   exact ⟨rfl, hS⟩
  ·refine jq ⟨?_⟩
   by_cases h3 : rest.length < n + 8
   ·rw [if_pos (.inr h3)]
    refine jq ⟨?_⟩
    exact ⟨rfl, hS⟩
   ·rw [if_neg (by omega)]
    refine jq ⟨?_⟩
    refine SemW.draw tblOk mixed (fun w' => St w [] [] w') [7, 8] [0, 1, 2, 5, 6, 3, 4, 7, 8] (by kernel_rfl) hS.drew ?_
    have hS := hS.drew
    refine jq ⟨?_⟩
    refine hS.al ?_
    intro b2 w2 _ hS
    refine Chk.mk hS.nil ?_
    refine (Sum_spec (ps := [rest.take 4, (rest.take (8 + n)).drop 8]) (by simp) (by simp; omega) (hS.arr (b := b2) (by simp))).mono ?_
    rintro _ w3 ⟨rfl, hS'⟩
    have hS := (hS.call0 hS').nil
    refine Chk.mk hS ?_
    refine (number_spec (rest.drop 4) (by simp; omega)).mono ?_
    rintro _ w4 ⟨rfl, hS'⟩
    have hS := hS.call0 hS'
    by_cases h5 : crcN [rest.take 4, (rest.take (8 + n)).drop 8] = num4 (rest.drop 4)
    ·rw [if_pos h5]
     refine jq ⟨?_⟩
     exact ⟨rfl, hS⟩
    ·rw [if_neg h5]
     refine jq ⟨?_⟩
     exact ⟨rfl, hS⟩
def scanM (t : List UInt8) : Nat → Nat → List (List UInt8) × Nat
 |0, k => ([], k)
 |fuel + 1, k => if (firstM t k).2.2 ≠ 0 then ([], k) else ((firstM t k).1 :: (scanM t fuel (firstM t k).2.1).1, (scanM t fuel (firstM t k).2.1).2)
theorem firstM_next (t : List UInt8) (k : Nat) (h : (firstM t k).2.2 = 0) : k + 8 ≤ (firstM t k).2.1 ∧ (firstM t k).2.1 ≤ t.length ∧ (firstM t k).2.1 = k + 8 + (firstM t k).1.length ∧ (firstM t k).1.length ≤ 65536 := by
 unfold firstM at h ⊢
 split at h
 ·simp at h
 ·rename_i h1
  rw [if_neg h1]
  split at h
  ·simp at h
  ·rename_i h2
   rw [if_neg h2]
   split at h
   ·rename_i h3
    rw [if_pos h3]
    simp only [kBf, kAo] at *
    omega
   ·simp at h
def scan (t : List UInt8) : List (List UInt8) × Nat := scanM t (t.length + 1) 0
set_option maxHeartbeats 1000000 in
theorem Scan_spec {w : World} (t : List UInt8) (ht : t.length ≤ 1099511627776) :
  Cl Tryz.prog f_frame_Scan [Str t] w fun v w' => ∃ a cap L, v = .tuple ⟨[.slice a (scan t).1.length cap, .int .i64 (scan t).2]⟩ ∧ Vec T_string 1 a (scan t).1.length cap ((scan t).1.map Str) L ∧ St w [] L w' := by
 have hS := St.start w
 refine en_frame_Scan rfl ?_
 refine jq ⟨?_⟩
 refine SemW.loop (fun (x : Nat × List (List UInt8) × Option Addr × Nat) => [(0, Str t), (4, .slice x.2.2.1 x.2.1.length x.2.2.2), (5, .int .i64 x.1)])
  (fun x w' => x.1 ≤ t.length ∧ x.2.1.length * 8 ≤ x.1 ∧ scan t = (x.2.1 ++ (scanM t (t.length + 1 - x.2.1.length) x.1).1, (scanM t (t.length + 1 - x.2.1.length) x.1).2) ∧ ∃ L, Vec T_string 1 x.2.2.1 x.2.1.length x.2.2.2 (x.2.1.map Str) L ∧ St w [] L w') (fun x => t.length - x.1) (0, [], none, 0)
  ⟨rfl, rfl, rfl, trivial⟩ ⟨kAg _, kAg _, by simp [scan], [], Vec.nil, hS⟩ ?_
 rintro ⟨k, ps, a, cap⟩ w1 ⟨hk, hk8, hsc, L, hv, hS⟩
 simp only at hk hk8 hsc hv ⊢
 have hfu : t.length + 1 - ps.length = (t.length - ps.length) + 1 := by omega
 rw [hfu] at hsc
 simp only [scanM] at hsc
 refine jq ⟨?_⟩
 refine (First_spec t k (by omega) hk).mono ?_
 rintro _ w2 ⟨rfl, hS'⟩
 have hS := hS.call0 hS'
 have hnx := firstM_next t k
 generalize firstM t k = y at hnx hsc ⊢
 obtain ⟨p, e, er⟩ := y
 simp only at hnx hsc ⊢
 by_cases h0 : er = 0
 ·subst h0
  obtain ⟨n1, n2, n3, n4⟩ := hnx rfl
  rw [if_neg (by simp)] at hsc
  refine jq ⟨?_⟩
  refine hS.al ?_
  intro b2 w3 _ hS
  refine St.app (sz := 1) tblOk rfl rfl rfl rfl hS hv (news := [Str p]) rfl (hS.arr (b := b2) (by simp)) rfl (by show (_ + _) * 16 ≤ _; omega) (by omega) ?_
  intro a' cap' L' w4 hv' hS
  have hS := hS.sub (kAb _ _)
  refine jq ⟨?_⟩
  refine ⟨(e, ps ++ [p], a', cap'), ⟨rfl, ?_, rfl, trivial⟩, ⟨n2, by simp; omega, ?_, L', by simpa using hv', hS⟩, by simp only; omega⟩
  ·show _ = (_ : Value)
   simp
  ·simp only [kAa, kAe, kAq]
   rw [show t.length + 1 - (ps.length + (0 + 1)) = t.length - ps.length by omega, hsc]
   simp
 ·rw [if_pos h0] at hsc
  refine jq ⟨?_⟩
  refine ⟨a, cap, L, ?_, ?_, hS⟩
  ·rw [hsc]; simp
  ·rw [hsc]; simpa using hv
def logC (f : Nat) (name : Bytes) (n : Nat) (torn dead : Bool) : Obj := .cells ⟨[.int .i64 n, ptr f, Str name, .bool torn, .bool dead]⟩ T_wal_Log (0, 0)
def openE (m : FSm) (name : Bytes) : Int := if m.off then 7 else if named name then 0 else 4
theorem named_eq (s : Bytes) : named s = !(decide (s = []) || decide (40 < s.length)) := by
 unfold named
 by_cases h : s = []
 ·simp [h]
 ·simp [h, ← Nat.not_lt]
set_option maxHeartbeats 1000000 in
set_option maxRecDepth 4000 in
theorem Open_ok {w : World} {f : Nat} {m : FSm} {L : Heap} (hF : FSo f m L) (hh : Holds L w) (name : Bytes) (h0 : openE m name = 0) (hlen : (findM m name).1.1.length ≤ 1099511627776) :
  Cl Tryz.prog f_wal_Open [ptr f, Str name] w fun v w' => ∃ bl a cap Lv, w.heap.size ≤ bl ∧ v = .tuple ⟨[ptr bl, .slice a (scan (findM m name).1.1).1.length cap, .int .i64 0]⟩ ∧
   Vec T_string 1 a (scan (findM m name).1.1).1.length cap ((scan (findM m name).1.1).1.map Str) Lv ∧
   St w (keys L) (Lv ++ (bl, logC f name (scan (findM m name).1.1).1.length (!decide ((scan (findM m name).1.1).2 = (findM m name).1.1.length)) false) :: L) w' := by
 have hS := St.enter hh
 refine en_wal_Open rfl ?_
 unfold openE at h0
 have hoff : m.off = false := by
  cases h : m.off with
  |false => rfl
  |true => rw [h] at h0; simp at h0
 rw [hoff] at h0
 have hnm : named name = true := by
  cases h : named name with
  |true => rfl
  |false => rw [h] at h0; simp at h0
 rw [named_eq] at hnm
 simp at hnm
 refine jq ⟨?_⟩
 refine (Down_spec hF hS.holds).mono ?_
 rintro _ w1 ⟨rfl, hS'⟩
 have hS := hS.call hS'
 rw [hoff]
 refine jq ⟨?_⟩
 refine BrG.neg hnm.1 ?_
 refine jq ⟨?_⟩
 refine (FRead_spec hF hS.holds name).mono ?_
 rintro _ w2 ⟨rfl, hS'⟩
 have hS := hS.call hS'
 generalize findM m name = y at hlen ⊢
 obtain ⟨⟨t, s⟩, e⟩ := y
 simp only at hlen ⊢
 refine jq ⟨?_⟩
 refine (Scan_spec t hlen).mono ?_
 rintro _ w3 ⟨a, cap, Lv, rfl, hv, hS'⟩
 have hS := hS.callNew hS'
 generalize scan t = sc at hv ⊢
 obtain ⟨ps, k⟩ := sc
 simp only at hv ⊢
 refine jq ⟨?_⟩
 refine hS.al ?_
 intro bl w4 hbl hS
 refine jq ⟨?_⟩
 refine ⟨bl, a, cap, Lv, hbl, rfl, hv, ?_⟩
 have e1 : decide ((k : Int) = (t.length : Int)) = decide (k = t.length) := by simp [Int.ofNat_inj]
 rw [e1] at hS
 exact hS.perm kBg.symm
set_option maxHeartbeats 1000000 in
theorem Open_err {w : World} {f : Nat} {m : FSm} {L : Heap} (hF : FSo f m L) (hh : Holds L w) (name : Bytes) (h0 : openE m name ≠ 0) :
  Cl Tryz.prog f_wal_Open [ptr f, Str name] w fun v w' => v = .tuple ⟨[.pointer none, .slice none 0 0, .int .i64 (openE m name)]⟩ ∧ St w (keys L) L w' := by
 have hS := St.enter hh
 refine en_wal_Open rfl ?_
 unfold openE at h0 ⊢
 refine jq ⟨?_⟩
 refine (Down_spec hF hS.holds).mono ?_
 rintro _ w1 ⟨rfl, hS'⟩
 have hS := hS.call hS'
 by_cases hoff : m.off = true
 ·rw [if_pos hoff]
  rw [hoff]
  refine jq ⟨?_⟩
  exact ⟨rfl, hS⟩
 ·have hoff' : m.off = false := by simpa using hoff
  rw [if_neg hoff] at h0 ⊢
  rw [hoff']
  have hnm : ¬ named name = true := fun h => by rw [if_pos h] at h0; exact h0 rfl
  rw [if_neg hnm]
  rw [named_eq] at hnm
  refine jq ⟨?_⟩
  by_cases he : name = []
  ·refine BrG.pos he ?_
   refine jq ⟨?_⟩
   exact ⟨rfl, hS⟩
  ·have : 40 < name.length := by
    apply Nat.lt_of_not_le
    intro h
    apply hnm
    simp [he]
    omega
   refine BrG.neg he ?_
   refine jq ⟨?_⟩
   exact ⟨rfl, hS⟩
def logAppM (m : FSm) (name : Bytes) (n : Nat) (torn dead : Bool) (ps : List Bytes) : Int × (Nat × Bool) × FSm :=
 if dead || m.off then (7, (n, true), m)
 else if torn then (8, (n, false), m)
 else if okLens ps = false then (2, (n, false), m)
 else if ps = [] then (0, (n, false), m)
 else if (appendM m name [sealB ps]).1 ≠ 0 then ((appendM m name [sealB ps]).1, (n, decide ((appendM m name [sealB ps]).1 = 7)), (appendM m name [sealB ps]).2)
 else ((syncM (appendM m name [sealB ps]).2 name).1, (if (syncM (appendM m name [sealB ps]).2 name).1 = 0 then n + ps.length else n, decide ((syncM (appendM m name [sealB ps]).2 name).1 = 7)), (syncM (appendM m name [sealB ps]).2 name).2)
set_option maxHeartbeats 1000000 in
theorem LogAppend_spec {w : World} {bl f : Nat} {m : FSm} {L : Heap} {name : Bytes} {n : Nat} {torn dead : Bool} (hF : FSo f m L) (hh : Holds ((bl, logC f name n torn dead) :: L) w) {a : Option Addr} {cap : Nat} {ps : List Bytes}
  (ha : Arr w (keys ((bl, logC f name n torn dead) :: L)) a (ps.map Str)) (hps : sumLen ps + 8 * ps.length + ((fget m name).getD ([], 0)).1.length ≤ 140737488355328) (hn : n + ps.length ≤ 9223372036854775807)
  (h1 : m.armed + 2 ≤ 9223372036854775807) (h2 : m.acts + 2 ≤ 9223372036854775807) :
  Cl Tryz.prog f_wal_Log_Append [ptr bl, .slice a ps.length cap] w fun v w' => v = .int .i64 (logAppM m name n torn dead ps).1 ∧
   ∃ L', FSo f (logAppM m name n torn dead ps).2.2 L' ∧ St w (keys ((bl, logC f name n torn dead) :: L)) ((bl, logC f name (logAppM m name n torn dead ps).2.1.1 torn (logAppM m name n torn dead ps).2.1.2) :: L') w' := by
 have hS := St.enter hh
 unfold logC at hS ha ⊢
 refine en_wal_Log_Append rfl ?_
 by_cases hd : dead = true
 ·subst hd
  have hM : logAppM m name n torn true ps = (7, (n, true), m) := by simp [logAppM]
  rw [hM]
  (repeat (refine jt ⟨?_⟩; refine hS.st rfl rfl ?_; intro _ hS)); refine jt ⟨?_⟩
  exact ⟨rfl, L, hF, hS⟩
 ·have hd' : dead = false := by simpa using hd
  subst hd'
  (repeat (refine jt ⟨?_⟩; refine hS.st rfl rfl ?_; intro _ hS)); refine jt ⟨?_⟩
  refine (Down_spec hF (hS.part (L := L))).mono ?_
  rintro _ w1 ⟨rfl, hS'⟩
  have hS := hS.call (L := L) hS'
  by_cases hoff : m.off = true
  ·rw [hoff]
   have hM : logAppM m name n torn false ps = (7, (n, true), m) := by simp [logAppM, hoff]
   rw [hM]
   (repeat (refine jt ⟨?_⟩; refine hS.st rfl rfl ?_; intro _ hS)); refine jt ⟨?_⟩
   exact ⟨rfl, L, hF, hS⟩
  ·have hoff' : m.off = false := by simpa using hoff
   rw [hoff']
   (repeat (refine jt ⟨?_⟩; refine hS.st rfl rfl ?_; intro _ hS)); refine jt ⟨?_⟩
   cases torn with
   |true =>
    have hM : logAppM m name n true false ps = (8, (n, false), m) := by simp [logAppM, hoff']
    rw [hM]
    (repeat (refine jt ⟨?_⟩; refine hS.st rfl rfl ?_; intro _ hS)); refine jt ⟨?_⟩
    exact ⟨rfl, L, hF, hS⟩
   |false =>
    (repeat (refine jt ⟨?_⟩; refine hS.st rfl rfl ?_; intro _ hS)); refine jt ⟨?_⟩
    refine (Seal_spec (by omega) ((hS.arrOld ha).sub (by simp))).mono ?_
    rintro _ w2 ⟨rfl, hS'⟩
    have hS := hS.call0 hS'
    by_cases hok : okLens ps = false
    ·have hM : logAppM m name n false false ps = (2, (n, false), m) := by simp [logAppM, hoff', hok]
     rw [hM, hok]
     refine jq ⟨?_⟩
     exact ⟨rfl, L, hF, hS⟩
    ·have hok' : okLens ps = true := by simpa using hok
     rw [hok', if_pos rfl]
     by_cases he : ps = []
     ·have hM : logAppM m name n false false ps = (0, (n, false), m) := by simp [logAppM, hoff', he, okLens]
      rw [hM]
      have hl0 : ps.length = 0 := by rw [he]; rfl
      refine jq ⟨?_⟩
      exact ⟨rfl, L, hF, hS⟩
     ·have hl0 : 0 < ps.length := by cases ps with | nil => exact absurd rfl he | cons => simp
      have hM : logAppM m name n false false ps = if (appendM m name [sealB ps]).1 ≠ 0 then ((appendM m name [sealB ps]).1, (n, decide ((appendM m name [sealB ps]).1 = 7)), (appendM m name [sealB ps]).2)
        else ((syncM (appendM m name [sealB ps]).2 name).1, (if (syncM (appendM m name [sealB ps]).2 name).1 = 0 then n + ps.length else n, decide ((syncM (appendM m name [sealB ps]).2 name).1 = 7)), (syncM (appendM m name [sealB ps]).2 name).2) := by
       simp only [logAppM, hoff', hok', he]; rfl
      rw [hM]
      have hsl := sealB_len ps
      generalize sealB ps = sb at hsl ⊢
      refine jq ⟨?_⟩
      refine SemW.draw tblOk mixed (fun w' => St w (keys ((bl, .cells ⟨[.int .i64 n, ptr f, Str name, .bool false, .bool false]⟩ T_wal_Log (0, 0)) :: L)) ((bl, .cells ⟨[.int .i64 n, ptr f, Str name, .bool false, .bool false]⟩ T_wal_Log (0, 0)) :: L) w')
       [10, 11] [0, 1, 2, 3, 4, 5, 6, 7, 8, 9, 10, 11] (by kernel_rfl) hS.drew ?_
      have hS := hS.drew
      refine jr ⟨?_⟩
      refine hS.al ?_
      intro b2 w3 _ hS
      refine Chk.mk (hS.sub (kAb _ _)) ?_
      refine (Append_spec hF (hS.part (L := L)) name (ps := [sb]) (hS.arr (b := b2) (fun h => by have := hS.nd; simp only [keys, kAh, kBq, kAf, not_or] at this h; exact this.1.2 h)) (by simp) (by simp) ?_ (by omega) (by omega)).mono ?_
      ·have : sumLen [sb] = sb.length := by simp [sumLen]
       omega
      rintro _ w4 ⟨rfl, L1, hF1, hS'⟩
      have hS := (hS.call (L := L) hS').sub (kAb _ _)
      have hm1 : (appendM m name [sb]).2.armed ≤ m.armed + 1 := by
       unfold appendM acted; (repeat' split) <;> first | exact kAd _ | exact kBr _
      have hm2 : (appendM m name [sb]).2.acts ≤ m.acts + 1 := by
       unfold appendM acted; (repeat' split) <;> first | exact kAd _ | exact kBr _
      generalize appendM m name [sb] = am at hF1 hm1 hm2 ⊢
      obtain ⟨e1, m1⟩ := am
      simp only at hF1 hm1 hm2 ⊢
      by_cases h0 : e1 = 0
      ·subst h0
       rw [if_neg (by simp)]
       refine jq ⟨?_⟩
       refine SemW.draw tblOk mixed (fun w' => St w (keys ((bl, .cells ⟨[.int .i64 n, ptr f, Str name, .bool false, .bool false]⟩ T_wal_Log (0, 0)) :: L)) ((bl, .cells ⟨[.int .i64 n, ptr f, Str name, .bool false, .bool false]⟩ T_wal_Log (0, 0)) :: L1) w')
        [8, 9] [0, 1, 2, 3, 4, 5, 6, 7, 8, 9] (by kernel_rfl) hS.drew ?_
       have hS := hS.drew
       refine jr ⟨?_⟩
       refine (Sync_spec hF1 (hS.part (L := L1)) name (by omega) (by omega)).mono ?_
       rintro _ w5 ⟨rfl, L2, hF2, hS'⟩
       have hS := hS.call (L := L1) hS'
       generalize syncM m1 name = am at hF2 ⊢
       obtain ⟨e2, m2⟩ := am
       simp only at hF2 ⊢
       by_cases h7 : e2 = 0
       ·subst h7
        rw [if_pos rfl]
        (repeat (refine jt ⟨?_⟩; refine hS.st rfl rfl ?_; intro _ hS)); refine jt ⟨?_⟩
        exact ⟨rfl, L2, hF2, hS⟩
       ·rw [if_neg h7]
        (repeat (refine jt ⟨?_⟩; refine hS.st rfl rfl ?_; intro _ hS)); refine jt ⟨?_⟩
        exact ⟨rfl, L2, hF2, hS⟩
      ·rw [if_pos h0]
       (repeat (refine jt ⟨?_⟩; refine hS.st rfl rfl ?_; intro _ hS)); refine jt ⟨?_⟩
       exact ⟨rfl, L1, hF1, hS⟩
end Go.Proofs.YtkgibdhpijdbfaaGreatDoor
namespace Go.Proofs
open Go.Shelf
def Tryz.laysAtoi_ren : Go.Shelf.Ren := ⟨fun | 172 => 123 | 244 => 163 | 245 => 164 | 247 => 204 | 279 => 205 | 280 => 206 | 281 => 207 | 282 => 208 | 287 => 226 | 316 => 227 | 171 => 124 | 205 => 228 | 321 => 245 | 322 => 246 | 243 => 165 | 246 => 209 | 283 => 229 | 284 => 230 | 285 => 231 | 286 => 232 | 129 => 198 | 317 => 247 | 318 => 248 | 319 => 249 | 320 => 250 | 337 => 257 | 338 => 258 | n => n, fun | 9 => 9 | 3 => 3 | 75 => 194 | 76 => 195 | 4 => 4 | 5 => 5 | 167 => 305 | 37 => 189 | 0 => 0 | 85 => 306 | 2 => 2 | 168 => 308 | 53 => 159 | 175 => 327 | 46 => 155 | 210 => 331 | 127 => 252 | 145 => 349 | 143 => 347 | 21 => 21 | 171 => 333 | 173 => 335 | 212 => 352 | 51 => 235 | 20 => 20 | 213 => 353 | 232 => 359 | 233 => 360 | 80 => 178 | n => n, fun | 15 => 1 | 16 => 2 | 17 => 3 | 18 => 4 | 19 => 5 | n => n⟩
theorem Tryz.laysAtoi : Go.Proofs.LaysC.n172 Tryz.prog Tryz.laysAtoi_ren := {
 mixed := by kernel_rfl
 f129 := Tryz.func198.trans (congrArg some (by kernel_rfl))
 f171 := Tryz.func124.trans (congrArg some (by kernel_rfl))
 f172 := Tryz.func123.trans (congrArg some (by kernel_rfl))
 f205 := Tryz.func228.trans (congrArg some (by kernel_rfl))
 f243 := Tryz.func165.trans (congrArg some (by kernel_rfl))
 f244 := Tryz.func163.trans (congrArg some (by kernel_rfl))
 f245 := Tryz.func164.trans (congrArg some (by kernel_rfl))
 f246 := Tryz.func209.trans (congrArg some (by kernel_rfl))
 f247 := Tryz.func204.trans (congrArg some (by kernel_rfl))
 f279 := Tryz.func205.trans (congrArg some (by kernel_rfl))
 f280 := Tryz.func206.trans (congrArg some (by kernel_rfl))
 f281 := Tryz.func207.trans (congrArg some (by kernel_rfl))
 f282 := Tryz.func208.trans (congrArg some (by kernel_rfl))
 f283 := Tryz.func229.trans (congrArg some (by kernel_rfl))
 f284 := Tryz.func230.trans (congrArg some (by kernel_rfl))
 f285 := Tryz.func231.trans (congrArg some (by kernel_rfl))
 f286 := Tryz.func232.trans (congrArg some (by kernel_rfl))
 f287 := Tryz.func226.trans (congrArg some (by kernel_rfl))
 f316 := Tryz.func227.trans (congrArg some (by kernel_rfl))
 f317 := Tryz.func247.trans (congrArg some (by kernel_rfl))
 f318 := Tryz.func248.trans (congrArg some (by kernel_rfl))
 f319 := Tryz.func249.trans (congrArg some (by kernel_rfl))
 f320 := Tryz.func250.trans (congrArg some (by kernel_rfl))
 f321 := Tryz.func245.trans (congrArg some (by kernel_rfl))
 f322 := Tryz.func246.trans (congrArg some (by kernel_rfl))
 f337 := Tryz.func257.trans (congrArg some (by kernel_rfl))
 f338 := Tryz.func258.trans (congrArg some (by kernel_rfl))
 t0 := Tryz.underlying0
 a0 := Tryz.isAgg0
 z0 := Tryz.sizeOf0
 v0 := Tryz.zeroValue0
 t2 := Tryz.underlying2
 a2 := Tryz.isAgg2
 z2 := Tryz.sizeOf2
 v2 := Tryz.zeroValue2
 t3 := Tryz.underlying3
 a3 := Tryz.isAgg3
 z3 := Tryz.sizeOf3
 v3 := Tryz.zeroValue3
 t4 := Tryz.underlying4
 a4 := Tryz.isAgg4
 z4 := Tryz.sizeOf4
 v4 := Tryz.zeroValue4
 t5 := Tryz.underlying5
 a5 := Tryz.isAgg5
 z5 := Tryz.sizeOf5
 v5 := Tryz.zeroValue5
 t9 := Tryz.underlying9
 a9 := Tryz.isAgg9
 z9 := Tryz.sizeOf9
 v9 := Tryz.zeroValue9
 t20 := Tryz.underlying20
 a20 := Tryz.isAgg20
 z20 := Tryz.sizeOf20
 v20 := Tryz.zeroValue20
 t21 := Tryz.underlying21
 a21 := Tryz.isAgg21
 z21 := Tryz.sizeOf21
 v21 := Tryz.zeroValue21
 t37 := Tryz.underlying189
 a37 := Tryz.isAgg189
 z37 := Tryz.sizeOf189
 v37 := Tryz.zeroValue189
 t46 := Tryz.underlying155
 a46 := Tryz.isAgg155
 z46 := Tryz.sizeOf155
 v46 := Tryz.zeroValue155
 t51 := Tryz.underlying235
 a51 := Tryz.isAgg235
 z51 := Tryz.sizeOf235
 v51 := Tryz.zeroValue235
 t53 := Tryz.underlying159
 a53 := Tryz.isAgg159
 z53 := Tryz.sizeOf159
 v53 := Tryz.zeroValue159
 t75 := Tryz.underlying194
 a75 := Tryz.isAgg194
 z75 := Tryz.sizeOf194
 v75 := Tryz.zeroValue194
 t76 := Tryz.underlying195
 a76 := Tryz.isAgg195
 z76 := Tryz.sizeOf195
 v76 := Tryz.zeroValue195
 t85 := Tryz.underlying306
 a85 := Tryz.isAgg306
 z85 := Tryz.sizeOf306
 v85 := Tryz.zeroValue306
 t127 := Tryz.underlying252
 a127 := Tryz.isAgg252
 z127 := Tryz.sizeOf252
 v127 := Tryz.zeroValue252
 t143 := Tryz.underlying347
 a143 := Tryz.isAgg347
 z143 := Tryz.sizeOf347
 v143 := Tryz.zeroValue347
 t145 := Tryz.underlying349
 a145 := Tryz.isAgg349
 z145 := Tryz.sizeOf349
 v145 := Tryz.zeroValue349
 t167 := Tryz.underlying305
 a167 := Tryz.isAgg305
 z167 := Tryz.sizeOf305
 v167 := Tryz.zeroValue305
 t168 := Tryz.underlying308
 a168 := Tryz.isAgg308
 z168 := Tryz.sizeOf308
 v168 := Tryz.zeroValue308
 t171 := Tryz.underlying333
 a171 := Tryz.isAgg333
 z171 := Tryz.sizeOf333
 v171 := Tryz.zeroValue333
 t173 := Tryz.underlying335
 a173 := Tryz.isAgg335
 z173 := Tryz.sizeOf335
 v173 := Tryz.zeroValue335
 t175 := Tryz.underlying327
 a175 := Tryz.isAgg327
 z175 := Tryz.sizeOf327
 v175 := Tryz.zeroValue327
 t210 := Tryz.underlying331
 a210 := Tryz.isAgg331
 z210 := Tryz.sizeOf331
 v210 := Tryz.zeroValue331
 t212 := Tryz.underlying352
 a212 := Tryz.isAgg352
 z212 := Tryz.sizeOf352
 v212 := Tryz.zeroValue352
 t213 := Tryz.underlying353
 a213 := Tryz.isAgg353
 z213 := Tryz.sizeOf353
 t232 := Tryz.underlying359
 a232 := Tryz.isAgg359
 z232 := Tryz.sizeOf359
 v232 := Tryz.zeroValue359
 t233 := Tryz.underlying360
 a233 := Tryz.isAgg360
 z233 := Tryz.sizeOf360
 v233 := Tryz.zeroValue360
 g15 := by kernel_rfl
 g16 := by kernel_rfl
 g17 := by kernel_rfl
 g18 := by kernel_rfl
 g19 := by kernel_rfl
 t80 := Tryz.underlying178
 a80 := Tryz.isAgg178
 z80 := Tryz.sizeOf178
 v80 := Tryz.zeroValue178
 i0 := by kernel_rfl
 i2 := by kernel_rfl
 i3 := by kernel_rfl
 i4 := by kernel_rfl
 i5 := by kernel_rfl
 i9 := by kernel_rfl
 i20 := by kernel_rfl
 i21 := by kernel_rfl
 i37 := by kernel_rfl
 i46 := by kernel_rfl
 i51 := by kernel_rfl
 i53 := by kernel_rfl
 i75 := by kernel_rfl
 i76 := by kernel_rfl
 i80 := by kernel_rfl
 i85 := by kernel_rfl
 i127 := by kernel_rfl
 i143 := by kernel_rfl
 i145 := by kernel_rfl
 i167 := by kernel_rfl
 i168 := by kernel_rfl
 i171 := by kernel_rfl
 i173 := by kernel_rfl
 i175 := by kernel_rfl
 i210 := by kernel_rfl
 i212 := by kernel_rfl
 i232 := by kernel_rfl
 i233 := by kernel_rfl
 m15 := by kernel_rfl
 m16 := by kernel_rfl
 m17 := by kernel_rfl
 m18 := by kernel_rfl
 m19 := by kernel_rfl
 c0 := by kernel_rfl
 c2 := by kernel_rfl
 c3 := by kernel_rfl
 c4 := by kernel_rfl
 c5 := by kernel_rfl
 c9 := by kernel_rfl
 c20 := by kernel_rfl
 c21 := by kernel_rfl
 c37 := by kernel_rfl
 c46 := by kernel_rfl
 c51 := by kernel_rfl
 c53 := by kernel_rfl
 c75 := by kernel_rfl
 c76 := by kernel_rfl
 c80 := by kernel_rfl
 c85 := by kernel_rfl
 c127 := by kernel_rfl
 c143 := by kernel_rfl
 c145 := by kernel_rfl
 c167 := by kernel_rfl
 c168 := by kernel_rfl
 c171 := by kernel_rfl
 c173 := by kernel_rfl
 c175 := by kernel_rfl
 c210 := by kernel_rfl
 c212 := by kernel_rfl
 c213 := by kernel_rfl
 c232 := by kernel_rfl
 c233 := by kernel_rfl }
end Go.Proofs
namespace Go.Proofs.YtkgibdhpijdbfaaGreatDoor
open Go Go.Eng Go.Proofs Go.RowKit
abbrev errG0 : Nat := 1
abbrev errG1 : Nat := 2
structure ErrVars (w : World) : Prop where
 syn : ∃ t p, w.cell? ⟨errG0, 0, none⟩ = some (.iface t p)
 ran : ∃ t p, w.cell? ⟨errG1, 0, none⟩ = some (.iface t p)
theorem ErrVars.keep {w0 w : World} {T : List Nat} {H : Heap} (h : ErrVars w0) (hS : St w0 T H w) (h0 : errG0 ∉ T) (h1 : errG1 ∉ T) : ErrVars w := by
 obtain ⟨⟨t, p, e⟩, ⟨t', p', e'⟩⟩ := h
 exact ⟨⟨t, p, hS.oldCell h0 e⟩, ⟨t', p', hS.oldCell h1 e'⟩⟩
theorem ErrVars.apart {w : World} (h : ErrVars w) {b : Nat} {x : Value} {l : List Value} {t : TypeId} {fz : Nat × Nat} (hm : w.heap[b]? = some (.cells ⟨x :: l⟩ t fz)) (hx : ∀ t p, x ≠ .iface t p) : b ≠ errG0 ∧ b ≠ errG1 := by
 obtain ⟨⟨t0, p0, e0⟩, ⟨t1, p1, e1⟩⟩ := h
 refine ⟨fun e => ?_, fun e => ?_⟩
 ·subst e
  simp [World.cell?, hm] at e0
  exact hx _ _ e0
 ·subst e
  simp [World.cell?, hm] at e1
  exact hx _ _ e1
theorem St.of_below {w w' : World} (h : Below w.heap.size w w') : St w [] [] w' :=
 ⟨h.os, h.tape, h.output, h.size, fun b hb _ => h.block b hb, by simp, by simp [keys], by simp⟩
theorem atoiAll_rng {s : Bytes} {v : Int} (h : Lib.atoiAll s = .ok v) : -9223372036854775808 ≤ v ∧ v ≤ 9223372036854775807 := by
 unfold Lib.atoiAll at h
 split at h
 ·cases h
 ·simp only at h
  split at h
  ·cases h
  ·cases h
  ·split at h
   ·cases h
   ·split at h
    ·cases h
    ·simp only [Lib.NumEnd.ok.injEq] at h
     subst h
     split <;> omega
theorem Atoi_specZ {w : World} {s : Bytes} (hs : s.length ≤ 281474976710656) (hE : ErrVars w) : Cl Tryz.prog f_strconv_Atoi [Str s] w fun v w' => St w [] [] w' ∧
  ∃ n ev, v = .tuple ⟨[.int .i64 n, ev]⟩ ∧ (-9223372036854775808 ≤ n ∧ n ≤ 9223372036854775807) ∧ ((Lib.atoiAll s = .ok n ∧ ev = .nilIface) ∨ ((∀ m, Lib.atoiAll s ≠ .ok m) ∧ (n ≤ 0 ∨ 99 < n) ∧ ∃ t p, ev = .iface t p)) := by
 have hsz : (ByteArray.mk (Array.mk s)).size = s.length := rfl
 obtain ⟨⟨t0, p0, e0⟩, ⟨t1, p1, e1⟩⟩ := hE
 refine .inl ⟨Tryz.call123 _ _, ?_⟩
 cases h : Lib.atoiAll s
 ·next v =>
  refine Calls.mono (Any.strconv_Atoi_ok Tryz.laysAtoi ⟨⟨s⟩⟩ (by omega) v h w) ?_
  rintro e w' ⟨rfl, hw⟩
  refine ⟨_, rfl, ?_, v, .nilIface, rfl, atoiAll_rng h, .inl ⟨rfl, rfl⟩⟩
  rcases hw with rfl | ⟨t, rfl⟩
  ·exact St.start _
  ·exact St.of_below (Lib.bytesWorld_below _ _ _)
 ·refine Calls.mono (Any.strconv_Atoi_syntax Tryz.laysAtoi ⟨⟨s⟩⟩ (by omega) h _ w e0 (.inr ⟨_, _, rfl⟩)) ?_
  rintro e w' ⟨M, rfl, -, -, hb⟩
  exact ⟨_, rfl, St.of_below hb, 0, _, rfl, ⟨by omega, by omega⟩, .inr ⟨(fun m hm => by cases hm), .inl (kCb 0), _, _, rfl⟩⟩
 ·refine Calls.mono (Any.strconv_Atoi_range Tryz.laysAtoi ⟨⟨s⟩⟩ (by omega) h _ w e1 (.inr ⟨_, _, rfl⟩)) ?_
  rintro e w' ⟨M, rfl, -, -, hb⟩
  exact ⟨_, rfl, St.of_below hb, Lib.atoiSat s, _, rfl, (by unfold Lib.atoiSat; split <;> omega), .inr ⟨(fun m hm => by cases hm), (by unfold Lib.atoiSat; split <;> omega), _, _, rfl⟩⟩
end Go.Proofs.YtkgibdhpijdbfaaGreatDoor
namespace Go.Proofs
open Go.Shelf
def Tryz.laysItoa_ren : Go.Shelf.Ren := ⟨fun | 171 => 124 | 243 => 165 | 246 => 209 | 283 => 229 | 284 => 230 | 285 => 231 | 286 => 232 | 129 => 198 | 317 => 247 | 318 => 248 | 319 => 249 | 320 => 250 | 337 => 257 | 338 => 258 | n => n, fun | 3 => 3 | 9 => 9 | 2 => 2 | 4 => 4 | 171 => 333 | 0 => 0 | 53 => 159 | 37 => 189 | 5 => 5 | 173 => 335 | 212 => 352 | 51 => 235 | 20 => 20 | 213 => 353 | 46 => 155 | 232 => 359 | 233 => 360 | n => n, fun | 17 => 3 | 18 => 4 | 19 => 5 | n => n⟩
theorem Tryz.laysItoa : Go.Proofs.LaysM.n171 Tryz.prog Tryz.laysItoa_ren := {
 mixed := by kernel_rfl
 f129 := Tryz.func198.trans (congrArg some (by kernel_rfl))
 f171 := Tryz.func124.trans (congrArg some (by kernel_rfl))
 f243 := Tryz.func165.trans (congrArg some (by kernel_rfl))
 f246 := Tryz.func209.trans (congrArg some (by kernel_rfl))
 f283 := Tryz.func229.trans (congrArg some (by kernel_rfl))
 f284 := Tryz.func230.trans (congrArg some (by kernel_rfl))
 f285 := Tryz.func231.trans (congrArg some (by kernel_rfl))
 f286 := Tryz.func232.trans (congrArg some (by kernel_rfl))
 f317 := Tryz.func247.trans (congrArg some (by kernel_rfl))
 f318 := Tryz.func248.trans (congrArg some (by kernel_rfl))
 f319 := Tryz.func249.trans (congrArg some (by kernel_rfl))
 f320 := Tryz.func250.trans (congrArg some (by kernel_rfl))
 f337 := Tryz.func257.trans (congrArg some (by kernel_rfl))
 f338 := Tryz.func258.trans (congrArg some (by kernel_rfl))
 t0 := Tryz.underlying0
 a0 := Tryz.isAgg0
 z0 := Tryz.sizeOf0
 v0 := Tryz.zeroValue0
 t2 := Tryz.underlying2
 a2 := Tryz.isAgg2
 z2 := Tryz.sizeOf2
 v2 := Tryz.zeroValue2
 t3 := Tryz.underlying3
 a3 := Tryz.isAgg3
 z3 := Tryz.sizeOf3
 v3 := Tryz.zeroValue3
 t4 := Tryz.underlying4
 a4 := Tryz.isAgg4
 z4 := Tryz.sizeOf4
 v4 := Tryz.zeroValue4
 t5 := Tryz.underlying5
 a5 := Tryz.isAgg5
 z5 := Tryz.sizeOf5
 v5 := Tryz.zeroValue5
 t9 := Tryz.underlying9
 a9 := Tryz.isAgg9
 z9 := Tryz.sizeOf9
 v9 := Tryz.zeroValue9
 t20 := Tryz.underlying20
 a20 := Tryz.isAgg20
 z20 := Tryz.sizeOf20
 v20 := Tryz.zeroValue20
 t37 := Tryz.underlying189
 a37 := Tryz.isAgg189
 z37 := Tryz.sizeOf189
 v37 := Tryz.zeroValue189
 t46 := Tryz.underlying155
 a46 := Tryz.isAgg155
 z46 := Tryz.sizeOf155
 v46 := Tryz.zeroValue155
 t51 := Tryz.underlying235
 a51 := Tryz.isAgg235
 z51 := Tryz.sizeOf235
 v51 := Tryz.zeroValue235
 t53 := Tryz.underlying159
 a53 := Tryz.isAgg159
 z53 := Tryz.sizeOf159
 v53 := Tryz.zeroValue159
 t171 := Tryz.underlying333
 a171 := Tryz.isAgg333
 z171 := Tryz.sizeOf333
 v171 := Tryz.zeroValue333
 t173 := Tryz.underlying335
 a173 := Tryz.isAgg335
 z173 := Tryz.sizeOf335
 v173 := Tryz.zeroValue335
 t212 := Tryz.underlying352
 a212 := Tryz.isAgg352
 z212 := Tryz.sizeOf352
 v212 := Tryz.zeroValue352
 t213 := Tryz.underlying353
 a213 := Tryz.isAgg353
 z213 := Tryz.sizeOf353
 t232 := Tryz.underlying359
 a232 := Tryz.isAgg359
 z232 := Tryz.sizeOf359
 v232 := Tryz.zeroValue359
 t233 := Tryz.underlying360
 a233 := Tryz.isAgg360
 z233 := Tryz.sizeOf360
 v233 := Tryz.zeroValue360
 g17 := by kernel_rfl
 g18 := by kernel_rfl
 g19 := by kernel_rfl
 i0 := by kernel_rfl
 i2 := by kernel_rfl
 i3 := by kernel_rfl
 i4 := by kernel_rfl
 i5 := by kernel_rfl
 i9 := by kernel_rfl
 i20 := by kernel_rfl
 i37 := by kernel_rfl
 i46 := by kernel_rfl
 i51 := by kernel_rfl
 i53 := by kernel_rfl
 i171 := by kernel_rfl
 i173 := by kernel_rfl
 i212 := by kernel_rfl
 i232 := by kernel_rfl
 i233 := by kernel_rfl
 m17 := by kernel_rfl
 m18 := by kernel_rfl
 m19 := by kernel_rfl }
end Go.Proofs
namespace Go.Proofs.YtkgibdhpijdbfaaGreatDoor
open Go Go.Eng Go.Proofs Go.RowKit
def TabW (w : World) : Prop := Lib.TabIs Tryz.prog w "internal/strconv.uint64pow10" .u64 Lib.pow10Tab
theorem St.of_grow {w : World} {k : Nat} {os : Array Obj} : St w [] [] (Go.Sort.grow (w.drewN k) os) :=
 have h := Lib.below_grow w.heap.size w (kAd _) k os
 ⟨h.os, h.tape, h.output, h.size, fun b hb _ => h.block b hb, by simp, by simp [keys], by simp⟩
theorem Itoa_specZ {w : World} {n : Int} (h0 : -9223372036854775808 ≤ n) (h1 : n ≤ 9223372036854775807) (hT : TabW w) : Cl Tryz.prog f_strconv_Itoa [.int .i64 n] w fun v w' => v = Str (Lib.itoa n) ∧ St w [] [] w' := by
 refine .inl ⟨Tryz.call124 _ _, ?_⟩
 refine Calls.mono (Any.strconv_Itoa Tryz.laysItoa n h0 h1 w hT) ?_
 rintro e w' ⟨rfl, k, os, rfl⟩
 exact ⟨_, rfl, rfl, St.of_grow⟩
theorem TabW.keep {w0 w : World} {H : Heap} (h : TabW w0) (hS : St w0 [] H w) : TabW w := by
 unfold TabW Lib.TabIs World.var? at *
 cases hg : Tryz.prog.globalNamed "internal/strconv.uint64pow10" with
 |none => simp [hg] at h
 |some g =>
  simp only [hg, Option.bind_some] at h ⊢
  have hlt : g < w0.heap.size := by
   rcases Nat.lt_or_ge g w0.heap.size with h' | h'
   ·exact h'
   ·rw [Array.getElem?_eq_none h'] at h; simp at h
  rw [hS.old g hlt (by simp)]
  exact h
end Go.Proofs.YtkgibdhpijdbfaaGreatDoor
namespace Go.Proofs.YtkgibdhpijdbfaaGreatDoor
open Go Go.Eng Go.Proofs
theorem pu_app (c : UInt8) : ∀ (l : Bytes) (acc : Nat), Lib.parseUint10 acc (l ++ [c]) = match Lib.parseUint10 acc l with
  |.ok a => Lib.parseUint10 a [c]
  |e => e
 |[], acc => by rw [kBj]; rfl
 |x :: l, acc => by
  rw [kBe]
  unfold Lib.parseUint10
  split
  ·split
   ·rfl
   ·split
    ·rfl
    ·exact pu_app c l _
  ·rfl
theorem digC (n : Nat) (h : n < 10) : (UInt8.ofNat (48 + n)).toNat = 48 + n := by
 rw [UInt8.toNat_ofNat']; omega
theorem pu_dec (u : Nat) (h : u < 18446744073709551616) : Lib.parseUint10 0 (Lib.decDigits u) = .ok u := by
 induction u using Nat.strongRecOn with
 |_ u ih =>
  rw [Lib.decDigits]
  split
  ·next h1 =>
   have := digC u h1
   unfold Lib.parseUint10
   rw [this, if_pos (by omega), if_neg (by omega), if_neg (by omega)]
   unfold Lib.parseUint10
   congr 1; omega
  ·next h1 =>
   have := digC (u % 10) (by omega)
   rw [pu_app, ih (u / 10) (by omega) (by omega)]
   show Lib.parseUint10 (u / 10) [UInt8.ofNat (48 + u % 10)] = _
   unfold Lib.parseUint10
   rw [this, if_pos (by omega), if_neg (by omega), if_neg (by omega)]
   unfold Lib.parseUint10
   congr 1; omega
theorem dec_head (u : Nat) : ∃ c r, Lib.decDigits u = c :: r ∧ 48 ≤ c.toNat ∧ c.toNat ≤ 57 := by
 induction u using Nat.strongRecOn with
 |_ u ih =>
  rw [Lib.decDigits]
  split
  ·next h1 =>
   have := digC u h1
   exact ⟨_, [], rfl, by omega, by omega⟩
  ·next h1 =>
   obtain ⟨c, r, h2, h3, h4⟩ := ih (u / 10) (by omega)
   rw [h2]
   exact ⟨c, _, rfl, h3, h4⟩
theorem atoi_itoa {n : Int} (h0 : -9223372036854775808 ≤ n) (h1 : n ≤ 9223372036854775807) : Lib.atoiAll (Lib.itoa n) = .ok n := by
 unfold Lib.itoa
 split
 ·next h =>
  obtain ⟨c, r, h2, -, -⟩ := dec_head n.natAbs
  have hp : Lib.parseMag (Lib.decDigits n.natAbs) = .ok n.natAbs := by
   unfold Lib.parseMag
   rw [if_neg (by rw [h2]; simp), pu_dec _ (by omega)]
  unfold Lib.atoiAll
  have e : (45 : UInt8).toNat = 45 := rfl
  simp only [e, or_true, if_true, hp]
  rw [if_neg (by simp), if_neg (by omega)]
  congr 1; omega
 ·next h =>
  obtain ⟨c, r, h2, h3, h4⟩ := dec_head n.toNat
  have hp : Lib.parseMag (c :: r) = .ok n.toNat := by
   rw [← h2]
   unfold Lib.parseMag
   rw [if_neg (by rw [h2]; simp), pu_dec _ (by omega)]
  rw [h2]
  unfold Lib.atoiAll
  simp only
  rw [if_neg (by omega), hp]
  simp only
  rw [if_neg (by omega), if_neg (by omega), if_neg (by omega)]
  congr 1; omega
theorem itoa_inj {n m : Int} (h0 : -9223372036854775808 ≤ n ∧ n ≤ 9223372036854775807) (h1 : -9223372036854775808 ≤ m ∧ m ≤ 9223372036854775807) (h : Lib.itoa n = Lib.itoa m) : n = m := by
 have e1 := atoi_itoa h0.1 h0.2
 rw [h, atoi_itoa h1.1 h1.2] at e1
 exact (Lib.NumEnd.ok.inj e1).symm
def isL (c : UInt8) : Bool := c == 116 || c == 119 || c == 109
def nameN (c : UInt8) (r : Bytes) (n : Int) : Bool := decide (1 ≤ n) && decide (Lib.itoa n = r) && isL c
def parseN : Bytes → UInt8 × Int × Bool
 |[] => (0, 0, false)
 |c :: r => match Lib.atoiAll r with
  |.ok n => if nameN c r n then (c, n, true) else (0, 0, false)
  |_ => (0, 0, false)
def parseV (t : Bytes) : Value := .tuple ⟨[.int .u8 (parseN t).1.toNat, .int .i64 (parseN t).2.1, .bool (parseN t).2.2]⟩
theorem parseN_cons (c : UInt8) (r : Bytes) : parseN (c :: r) = match Lib.atoiAll r with
  |.ok n => if nameN c r n then (c, n, true) else (0, 0, false)
  |_ => (0, 0, false) := rfl
theorem parseN_of {c : UInt8} {r : Bytes} {n : Int} (hn : -9223372036854775808 ≤ n ∧ n ≤ 9223372036854775807) (h : Lib.atoiAll r = .ok n ∨ ∀ m, Lib.atoiAll r ≠ .ok m) : parseN (c :: r) = if nameN c r n then (c, n, true) else (0, 0, false) := by
 rw [parseN_cons]
 rcases h with h | h
 ·rw [h]
 ·have hne : Lib.itoa n ≠ r := fun e => h n (by rw [← e]; exact atoi_itoa hn.1 hn.2)
  have hf : nameN c r n = false := by unfold nameN; rw [decide_eq_false hne]; simp
  rw [hf]
  cases h2 : Lib.atoiAll r
  ·exact absurd h2 (h _)
  ·rfl
  ·rfl
theorem parseN_name {c : UInt8} {n : Int} (hc : isL c = true) (hn : -9223372036854775808 ≤ n ∧ n ≤ 9223372036854775807) : parseN (c :: Lib.itoa n) = if 1 ≤ n then (c, n, true) else (0, 0, false) := by
 rw [parseN_of hn (.inl (atoi_itoa hn.1 hn.2))]
 unfold nameN
 rw [hc]
 by_cases h : 1 ≤ n <;> simp [h]
end Go.Proofs.YtkgibdhpijdbfaaGreatDoor
namespace Go.Proofs.YtkgibdhpijdbfaaGreatDoor
open Go Go.Eng Go.Proofs
open Go.ChangeShapes Go.WideShapes Go.ChangeAt Go.RowKit
theorem ownTry : ownKnob Tryz.prog.godebug = none := by kernel_rfl
theorem laidTry : laidOutB Tryz.prog = true := by kernel_rfl
theorem calls_of_cl {P : Program} {f : FuncId} {args : List Value} {w : World} {R : Value → World → Prop} (hc : ∀ (args : Array Value) (w : World), (callFunc f args).run P w = .ok (.enter f args) w)
  (h : Cl P f args w R) : Calls P f ⟨args⟩ w fun e w' => ∃ v, e = .returned v ∧ R v w' := by
 rcases h with ⟨_, h⟩ | ⟨v, w', h, _⟩
 ·exact h
 ·rw [hc] at h; cases h
theorem St.below {w w' : World} (h : St w [] [] w') : Below w.heap.size w w' := ⟨h.os, h.tape, h.output, h.size, fun k hk => h.old k hk (by simp)⟩
theorem trodAll_below {H : Type} {enc : TypeId × Value → H} {P : Program} (hl : laidOutB P = true) {W W' : World} (hb : Below W.heap.size W W') : ∀ {ts : List TypeId} {vs : List Value} {ds : List (DataW H)} {ps : List MemPlace},
  (ts.all fun t => P.readableRec t && decide (t < P.types.size)) = true → (∀ x ∈ ps, x.block < W.heap.size) → DataW.TrodAll enc P W 0 (fun _ => true) true ts vs ds ps →
  DataW.TrodAll enc P W' 0 (fun b => decide (b < W.heap.size)) true ts vs ds ps
 |[], [], [], _, _, _, h => h
 |t :: ts, v :: vs, d :: ds, ps, ht, hlt, ⟨p, q, h1, h2, e⟩ => by
  subst e
  simp only [List.all_cons, Bool.and_eq_true, decide_eq_true_eq] at ht
  exact ⟨p, q, Below.trod hl ht.1.1 ht.1.2 h1 hb (fun x hx => hlt x (by simp [hx])), trodAll_below hl hb (by simpa using ht.2) (fun x hx => hlt x (by simp [hx])) h2, rfl⟩
 |[], [], _ :: _, _, _, _, h => h.elim
 |[], _ :: _, _, _, _, _, h => h.elim
 |_ :: _, [], _, _, _, _, h => h.elim
 |_ :: _, _ :: _, [], _, _, _, h => h.elim
theorem post_true {H : Type} {enc : TypeId × Value → H} {P : Program} {f : Func} {s : ChangeSpec} {W W' : World} {args : Array Value} {ds gs : List (DataW H)} {before : List MemPlace} (hl : laidOutB P = true)
  (hts : (f.params.toList.all fun t => P.readableRec t && decide (t < P.types.size)) = true) {tb : TypeId} (hrt : f.resultTypes = #[tb]) (hb : P.underlying tb = some .bool)
  (hW : DataW.Whole enc P f.params.toList s.vars false W args.toList ds gs before) (hv : s.vars = []) (hfn : gs = [] → s.fn H (ds ++ gs) = { results := [.lit (.bool true)], args := ds }) (hst : St W [] [] W') :
  s.post enc P f false true false false W args (.bool true) W' := by
 have hW' := hW
 obtain ⟨p, q, hA, hV, rfl, _, _⟩ := hW
 rw [hv] at hV
 obtain ⟨rfl, rfl⟩ := trodVars_none hV
 have hlt : ∀ x ∈ p, x.block < W.heap.size := fun x hx => by have := hW'.lt x (by simp [hx]); simpa using this
 refine ⟨ds, [], _, [], p, [], hW', ?_, ?_, ?_, (St.below hst).frame _, fun h => by cases h⟩
 ·rw [hfn rfl, hrt]
  exact trodAll_mk1 (shut_bool hb _)
 ·rw [hfn rfl]
  exact trodAll_below hl (St.below hst) hts hlt hA
 ·rw [hfn rfl, hv]
  rfl
theorem Str_of (s : ByteArray) : Value.string s = Str s.data.toList := by
 cases s; rfl
theorem bulk2 {H : Type} {d1 d2 : DataW H} (h : Rows.uptoSmall H [d1, d2] = true) : Rows.uptoBulk d1 + Rows.uptoBulk d2 ≤ 1048576 := by
 have h : Rows.uptoBulkAll [d1, d2] ≤ 1048576 := of_decide_eq_true h
 simp only [Rows.uptoBulkAll] at h; omega
theorem bulk3 {H : Type} {d1 d2 d3 : DataW H} (h : Rows.uptoSmall H [d1, d2, d3] = true) : Rows.uptoBulk d1 + Rows.uptoBulk d2 + Rows.uptoBulk d3 ≤ 1048576 := by
 have h : Rows.uptoBulkAll [d1, d2, d3] ≤ 1048576 := of_decide_eq_true h
 simp only [Rows.uptoBulkAll] at h; omega
abbrev CellR (β : Type) := World → List Value → β → Prop
structure Opens (P : Program) (t : TypeId) {β : Type} (R : CellR β) (bulk : β → Nat) : Prop where
 out : ∀ {H : Type} {enc : TypeId × Value → H} {W : World} {fuel : Nat} {cs : List Value} {x : DataW H × List MemPlace}, DataW.trod enc P W 0 (fun _ => true) true fuel t cs = some x → ∃ b, R W cs b ∧ bulk b ≤ Rows.uptoBulk x.1
def RStr : CellR Bytes := fun _ cs s => cs = [Str s] ∧ s.length ≤ maxLen
def RInt (k : IntKind) : CellR Int := fun _ cs n => cs = [.int k n] ∧ (Lit.int k n).wf = true
def RBool : CellR Bool := fun _ cs b => cs = [.bool b]
structure RSl {β : Type} (sz : Nat) (R : CellR β) (W : World) (cs : List Value) (xs : List β) : Prop where
 ex : ∃ (a : Option Addr) (cap : Nat), cs = [.slice a xs.length cap] ∧ xs.length ≤ cap ∧ True ∧
  ∀ j (h : j < xs.length), ∃ b off cs', a = some ⟨b, off, none⟩ ∧ cs'.length = sz ∧ (∀ i v, cs'[i]? = some v → W.cell? ⟨b, off + (j * sz + i), none⟩ = some v) ∧ R W cs' xs[j]
def RPair {α β : Type} (n : Nat) (R : CellR α) (S : CellR β) : CellR (α × β) := fun W cs x => R W (cs.take n) x.1 ∧ S W (cs.drop n) x.2
theorem Opens.str {P : Program} {t : TypeId} (ht : P.underlying t = some .string) : Opens P t RStr (fun s => s.length + 1) := by
 refine ⟨fun {H enc W fuel cs x} h => ?_⟩
 obtain ⟨s, rfl, rfl, hs⟩ := DataW.trod_string ht h
 exact ⟨s.data.toList, ⟨by rw [Str_of], by rw [Array.length_toList]; exact hs⟩, kAd _⟩
theorem Opens.int {P : Program} {t : TypeId} {k : IntKind} (ht : P.underlying t = some (.int k)) : Opens P t (RInt k) (fun _ => 1) := by
 refine ⟨fun {H enc W fuel cs x} h => ?_⟩
 obtain ⟨n, rfl, rfl, hs⟩ := DataW.trod_int ht h
 exact ⟨n, ⟨rfl, hs⟩, kAd _⟩
theorem Opens.bool {P : Program} {t : TypeId} (ht : P.underlying t = some .bool) : Opens P t RBool (fun _ => 1) := by
 refine ⟨fun {H enc W fuel cs x} h => ?_⟩
 obtain ⟨n, rfl, rfl⟩ := DataW.trod_bool ht h
 exact ⟨n, rfl, kAd _⟩
theorem bulk_range {H : Type} {β : Type} (bulk : β → Nat) : ∀ (xs : List β) (D : Nat → DataW H), (∀ j (h : j < xs.length), bulk xs[j] ≤ Rows.uptoBulk (D j)) → (xs.map bulk).sum ≤ Rows.uptoBulkAll ((List.range xs.length).map D)
 |[], _, _ => by simp
 |x :: r, D, h => by
  have ih := bulk_range bulk r (fun j => D (j + 1)) (fun j hj => h (j + 1) (by simpa using hj))
  have h0 := h 0 (by simp)
  rw [kAe, List.range_succ_eq_map, kAh, kAh, kBz, kCj]
  simp only [Rows.uptoBulkAll]
  have : Function.comp D Nat.succ = fun j => D (j + 1) := rfl
  rw [this]
  simp only [kDb] at h0
  omega
theorem Opens.slice {P : Program} {t e : TypeId} {β : Type} {R : CellR β} {bulk : β → Nat} (ht : P.underlying t = some (.slice e)) {sz : Nat} (hc : P.cellsOf e = sz) (h0 : 0 < sz) (he : Opens P e R bulk) :
  Opens P t (RSl sz R) (fun xs => (xs.map bulk).sum + 1) := by
 refine ⟨fun {H enc W fuel cs x} h => ?_⟩
 rcases Go.Deep.open_slice ht h with ⟨rfl, rfl⟩ | ⟨a, len, cap, m, n, D, Pl, rfl, -, hl, hm, hmm, rfl, hx⟩
 ·exact ⟨[], ⟨none, 0, rfl, kAd _, by decide, fun j h => by simp at h⟩, by simp [Rows.uptoBulk]⟩
 rw [if_pos rfl] at hmm
 subst hmm
 rw [hc] at hx
 have hall : ∀ i, i < len → ∃ b : β, (∃ cs', W.cells? 0 (a.add (i * sz)) sz = some cs' ∧ R W cs' b) ∧ bulk b ≤ Rows.uptoBulk (D i) := by
  intro i hi
  obtain ⟨cs', h1, h2⟩ := hx i (by omega)
  obtain ⟨b, h3, h4⟩ := he.out h2
  exact ⟨b, ⟨cs', h1, h3⟩, h4⟩
 have hxs : ∃ xs : List β, xs.length = len ∧ ∀ i (hi : i < xs.length), (∃ cs', W.cells? 0 (a.add (i * sz)) sz = some cs' ∧ R W cs' xs[i]) ∧ bulk xs[i] ≤ Rows.uptoBulk (D i) := by
  clear h hx hl hm
  induction len with
  |zero => exact ⟨[], rfl, fun i hi => by simp at hi⟩
  |succ k ih =>
   obtain ⟨xs, hxl, hxs⟩ := ih (fun i hi => hall i (by omega))
   obtain ⟨b, hb⟩ := hall k (by omega)
   refine ⟨xs ++ [b], by simp [hxl], fun i hi => ?_⟩
   by_cases hik : i < xs.length
   ·rw [List.getElem_append_left hik]; exact hxs i hik
   ·have : i = k := by simp at hi; omega
    subst this
    rw [List.getElem_append_right (by omega)]
    simpa [hxl] using hb
 obtain ⟨xs, rfl, hxs⟩ := hxs
 refine ⟨xs, ⟨some a, _, rfl, hl, trivial, fun j hj => ?_⟩, ?_⟩
 ·obtain ⟨⟨cs', h1, h2⟩, -⟩ := hxs j hj
  obtain ⟨_, h3, h4⟩ := World.cells?_some h1
  obtain ⟨b, off, spot⟩ := a
  have hcell : ∀ i v, cs'[i]? = some v → W.cell? ((Addr.mk b off spot).add (j * sz + i)) = some v := by
   intro i v hv
   have := h4 i (by have := (kBt.1 hv).1; omega)
   rw [hv] at this
   rwa [Go.Deep.add_add] at this
  have hspot : spot = none := by
   obtain ⟨⟨cs0, k1, -⟩, -⟩ := hxs 0 (by omega)
   obtain ⟨_, k3, k4⟩ := World.cells?_some k1
   have := k4 0 h0
   rw [kAp (show 0 < cs0.length by omega)] at this
   simpa [Addr.add] using World.cell?_spot this
  subst hspot
  refine ⟨b, off, cs', rfl, h3, fun i v hv => ?_, h2⟩
  have := hcell i v hv
  rwa [add_plain] at this
 ·have := bulk_range bulk xs D (fun j hj => (hxs j hj).2)
  simp only [Rows.uptoBulk]
  omega
theorem Opens.pair {P : Program} {t : TypeId} {f0 f1 : Field} {α β : Type} {R : CellR α} {S : CellR β} {b0 : α → Nat} {b1 : β → Nat} (ht : P.underlying t = some (.struct #[f0, f1])) {s0 s1 : Nat} (o0 : f0.offset = 0) (o1 : f1.offset = s0)
  (c0 : P.cellsOf f0.type = s0) (c1 : P.cellsOf f1.type = s1) (ct : P.cellsOf t = s0 + s1) (h0 : Opens P f0.type R b0) (h1 : Opens P f1.type S b1) : Opens P t (RPair s0 R S) (fun x => b0 x.1 + b1 x.2 + 1) := by
 refine ⟨fun {H enc W fuel cs x} h => ?_⟩
 obtain ⟨xs, n, -, rfl, hl, hxl, hx⟩ := DataW.trod_struct ht h
 have e0 := hx 0 f0 rfl
 have e1 := hx 1 f1 rfl
 have hx2 : xs.length = 2 := by simpa using hxl
 rw [o0, c0, List.drop_zero] at e0
 rw [o1, c1, kDi (by rw [kBf]; omega)] at e1
 rw [kAp (show 0 < xs.length by omega)] at e0
 rw [kAp (show 1 < xs.length by omega)] at e1
 obtain ⟨a, g0, g1⟩ := h0.out e0
 obtain ⟨b, g2, g3⟩ := h1.out e1
 refine ⟨(a, b), ⟨g0, g2⟩, ?_⟩
 match xs, hx2 with
 |[u, v], _ =>
  simp only [kDb, List.getElem_cons_succ] at g1 g3
  simp only [kAh, kC, Rows.uptoBulk, Rows.uptoBulkAll]
  omega
structure OpensFs (P : Program) (o : Nat) (fs : List Field) (sz : Nat) {β : Type} (R : CellR β) (bulk : β → Nat) : Prop where
 out : ∀ {H : Type} {enc : TypeId × Value → H} {W : World} {fuel : Nat} {cs : List Value} {xs : List (DataW H × List MemPlace)}, cs.length = sz → xs.length = fs.length →
  (∀ (i : Nat) (f : Field), fs[i]? = some f → DataW.trod enc P W 0 (fun _ => true) true fuel f.type ((cs.drop f.offset).take (P.cellsOf f.type)) = xs[i]?) → ∃ b, R W (cs.drop o) b ∧ bulk b ≤ Rows.uptoBulkAll (xs.map (·.1))
def RNil : CellR Unit := fun _ cs _ => cs = []
theorem OpensFs.nil {P : Program} {sz : Nat} : OpensFs P sz [] sz RNil (fun _ => 0) := by
 refine ⟨fun {H enc W fuel cs xs} h1 h2 h3 => ?_⟩
 refine ⟨(), ?_, kAg _⟩
 show cs.drop sz = []
 rw [List.drop_eq_nil_iff]; omega
theorem OpensFs.cons {P : Program} {o s sz : Nat} {f : Field} {fs : List Field} {α β : Type} {R : CellR α} {S : CellR β} {b0 : α → Nat} {b1 : β → Nat} (ho : f.offset = o) (hc : P.cellsOf f.type = s) (h0 : Opens P f.type R b0) (h1 : OpensFs P (o + s) fs sz S b1) :
  OpensFs P o (f :: fs) sz (RPair s R S) (fun x => b0 x.1 + b1 x.2) := by
 refine ⟨fun {H enc W fuel cs xs} hl hx h => ?_⟩
 match xs, hx with
 |x :: xs, hx =>
  have e0 := h 0 f rfl
  rw [ho, hc] at e0
  obtain ⟨a, g0, g1⟩ := h0.out e0
  obtain ⟨b, g2, g3⟩ := h1.out hl (by simpa using hx) (fun i f' hf => by simpa using h (i + 1) f' (by simpa using hf))
  refine ⟨(a, b), ⟨g0, by rw [List.drop_drop]; exact g2⟩, ?_⟩
  simp only [kAh, Rows.uptoBulkAll]
  omega
theorem Opens.struct {P : Program} {t : TypeId} {fs : List Field} {sz : Nat} {β : Type} {R : CellR β} {bulk : β → Nat} (ht : P.underlying t = some (.struct ⟨fs⟩)) (ct : P.cellsOf t = sz) (h : OpensFs P 0 fs sz R bulk) : Opens P t R (fun x => bulk x + 1) := by
 refine ⟨fun {H enc W fuel cs x} hx => ?_⟩
 obtain ⟨xs, n, -, rfl, hl, hxl, hx⟩ := DataW.trod_struct ht hx
 obtain ⟨b, g0, g1⟩ := h.out (by rw [hl, ct]) (by simpa using hxl) (fun i f hf => hx i f (by simpa using hf))
 refine ⟨b, by simpa using g0, ?_⟩
 simp only [Rows.uptoBulk]; omega
theorem RSl.inv {β : Type} {sz : Nat} {R : CellR β} {W : World} {v : Value} {xs : List β} (h : RSl sz R W [v] xs) : ∃ (a : Option Addr) (cap : Nat), v = .slice a xs.length cap ∧ xs.length ≤ cap ∧ True ∧ RSl sz R W [.slice a xs.length cap] xs := by
 obtain ⟨a, cap, h1, h2, h3, h4⟩ := h.ex
 refine ⟨a, cap, by simpa using h1, h2, h3, ⟨a, cap, rfl, h2, h3, h4⟩⟩
theorem RSl.get {β : Type} {R : CellR β} {W : World} {a : Option Addr} {n cap : Nat} {xs : List β} (h : RSl 1 R W [.slice a n cap] xs) {j : Nat} (hj : j < xs.length) : ∃ b off v, a = some ⟨b, off, none⟩ ∧ W.cell? ⟨b, off + j, none⟩ = some v ∧ R W [v] xs[j] := by
 obtain ⟨a', cap', h1, -, -, h4⟩ := h.ex
 obtain ⟨b, off, cs, h5, h6, h7, h8⟩ := h4 j hj
 have : a = a' := by simpa using (List.cons.inj h1).1 |> fun h => (Value.slice.inj h).1
 subst this
 match cs, h6 with
 |[v], _ => exact ⟨b, off, v, h5, by simpa using h7 0 v rfl, h8⟩
theorem Trod.out {H : Type} {enc : TypeId × Value → H} {P : Program} {W : World} {t : TypeId} {v : Value} {d : DataW H} {p : List MemPlace} (hd : DataW.Trod enc P W 0 (fun _ => true) true t v d p) {β : Type} {R : CellR β} {bulk : β → Nat} (h : Opens P t R bulk) :
  ∃ b, R W v.cells.toList b ∧ bulk b ≤ Rows.uptoBulk d := by
 obtain ⟨fuel, hf⟩ := hd
 exact h.out hf
end Go.Proofs.YtkgibdhpijdbfaaGreatDoor
namespace Go.Proofs.YtkgibdhpijdbfaaGreatDoor
open Go Go.Eng Go.Proofs
theorem RSl.at {β : Type} {sz : Nat} {R : CellR β} {W : World} {a : Option Addr} {n cap : Nat} {xs : List β} (h : RSl sz R W [.slice a n cap] xs) {j : Nat} (hj : j < xs.length) :
  ∃ b off cs, a = some ⟨b, off, none⟩ ∧ cs.length = sz ∧ (∀ i v, cs[i]? = some v → W.cell? ⟨b, off + (j * sz + i), none⟩ = some v) ∧ R W cs xs[j] := by
 obtain ⟨a', cap', h1, -, -, h4⟩ := h.ex
 have : a = a' := by simpa using (List.cons.inj h1).1 |> fun h => (Value.slice.inj h).1
 subst this
 exact h4 j hj
theorem RSl.keep {β : Type} {sz : Nat} {R : CellR β} {w0 w : World} {H : Heap} (hS : St w0 [] H w) (hR : ∀ cs x, R w0 cs x → R w cs x) {cs : List Value} {xs : List β} (h : RSl sz R w0 cs xs) : RSl sz R w cs xs := by
 obtain ⟨a, cap, h1, h2, h3, h4⟩ := h.ex
 refine ⟨a, cap, h1, h2, h3, fun j hj => ?_⟩
 obtain ⟨b, off, cs', h5, h6, h7, h8⟩ := h4 j hj
 exact ⟨b, off, cs', h5, h6, fun i v hv => hS.oldCell (by simp) (h7 i v hv), hR _ _ h8⟩
theorem RSl.ldn {β : Type} {sz : Nat} {R : CellR β} {w0 w : World} {H : Heap} (hS : St w0 [] H w) {a : Option Addr} {n cap : Nat} {xs : List β} (h : RSl sz R w0 [.slice a n cap] xs) {j : Nat} (hj : j < xs.length) :
  ∃ b off cs, a = some ⟨b, off, none⟩ ∧ R w0 cs xs[j] ∧ ∀ K : List Value → Prop, K cs → LdN (fun w' => w = w') sz b (off + j * sz) K := by
 obtain ⟨b, off, cs, h1, h2, h3, h4⟩ := h.at hj
 refine ⟨b, off, cs, h1, h4, fun K hK => ⟨⟨cs, h2, fun _ e i v hv => ?_, hK⟩⟩⟩
 subst e
 have := hS.oldCell (by simp) (h3 i v hv)
 rw [← kCs] at this
 exact this
theorem RSl.ldnC {β : Type} {sz : Nat} {R : CellR β} {w0 : World} {a : Option Addr} {n cap : Nat} {xs : List β} (h : RSl sz R w0 [.slice a n cap] xs) {j : Nat} (hj : j < xs.length) :
  ∃ b off cs, a = some ⟨b, off, none⟩ ∧ R w0 cs xs[j] ∧ ∀ K : List Value → Prop, K cs → LdN (fun w' => St w0 [] [] w') sz b (off + j * sz) K := by
 obtain ⟨b, off, cs, h1, h2, h3, h4⟩ := h.at hj
 refine ⟨b, off, cs, h1, h4, fun K hK => ⟨⟨cs, h2, fun _ e i v hv => ?_, hK⟩⟩⟩
 have := e.oldCell (by simp) (h3 i v hv)
 rw [← kCs] at this
 exact this
theorem RSl.mem {β : Type} {sz : Nat} {R : CellR β} {W : World} {v : Value} {xs : List β} (h : RSl sz R W [v] xs) {x : β} (hx : x ∈ xs) : ∃ cs, R W cs x := by
 obtain ⟨a, cap, -, -, -, h4⟩ := h.ex
 obtain ⟨i, hi, rfl⟩ := kCy.1 hx
 obtain ⟨b, off, cs, -, -, -, h8⟩ := h4 i hi
 exact ⟨cs, h8⟩
theorem Opens.map {P : Program} {t : TypeId} {β γ : Type} {R : CellR β} {S : CellR γ} {bk : β → Nat} {bk' : γ → Nat} (h : Opens P t R bk) (f : β → γ) (hf : ∀ W cs x, R W cs x → S W cs (f x)) (hb : ∀ x, bk' (f x) ≤ bk x) : Opens P t S bk' := by
 refine ⟨fun {H enc W fuel cs x} hx => ?_⟩
 obtain ⟨b, h1, h2⟩ := h.out hx
 exact ⟨f b, hf _ _ _ h1, kBb (hb b) h2⟩
def i64b (n : Int) : Prop := -9223372036854775808 ≤ n ∧ n ≤ 9223372036854775807
theorem wf_i64b {n : Int} (h : (Lit.int .i64 n).wf = true) : i64b n := by
 unfold i64b; simpa [Lit.wf, IntKind.min, IntKind.max, IntKind.signed, IntKind.bits] using h
theorem take1' {cs : List Value} {x : Value} (h : cs.take 1 = [x]) : cs = x :: cs.drop 1 := by
 conv => lhs; rw [← kAu 1 cs, h]
 rfl
theorem pair_int {k : IntKind} {β : Type} {S : CellR β} {W : World} {cs : List Value} {x : Int × β} (h : RPair 1 (RInt k) S W cs x) : cs = .int k x.1 :: cs.drop 1 ∧ (Lit.int k x.1).wf = true ∧ S W (cs.drop 1) x.2 :=
 ⟨take1' h.1.1, h.1.2, h.2⟩
theorem pair_bool {β : Type} {S : CellR β} {W : World} {cs : List Value} {x : Bool × β} (h : RPair 1 RBool S W cs x) : cs = .bool x.1 :: cs.drop 1 ∧ S W (cs.drop 1) x.2 :=
 ⟨take1' h.1, h.2⟩
theorem pair_str {β : Type} {S : CellR β} {W : World} {cs : List Value} {x : Bytes × β} (h : RPair 1 RStr S W cs x) : cs = Str x.1 :: cs.drop 1 ∧ S W (cs.drop 1) x.2 :=
 ⟨take1' h.1.1, h.2⟩
theorem pair_sl {α β : Type} {sz : Nat} {R : CellR α} {S : CellR β} {W : World} {cs : List Value} {x : List α × β} (h : RPair 1 (RSl sz R) S W cs x) : ∃ v, cs = v :: cs.drop 1 ∧ RSl sz R W [v] x.1 ∧ S W (cs.drop 1) x.2 := by
 obtain ⟨a, cap, h1, -⟩ := h.1.ex
 refine ⟨_, take1' h1, ?_, h.2⟩
 rw [← h1]; exact h.1
theorem RSl.own {β : Type} {sz : Nat} {R : CellR β} {w0 w : World} {T : List Nat} {H : Heap} {g : Nat} {t : TypeId} {fz : Nat × Nat} {css : List (List Value)} {tail : List Value} {F : Obj → Heap} (hS : St w0 T H w) [Slot H g (.cells ⟨css.flatten ++ tail⟩ t fz) F] {xs : List β} {cap : Nat}
  (hl : css.length = xs.length) (hc : ∀ c ∈ css, c.length = sz) (hR : ∀ j (h1 : j < css.length) (h2 : j < xs.length), R w css[j] xs[j]) (hcap : xs.length ≤ cap) (_hm : True) : RSl sz R w [.slice (some ⟨g, 0, none⟩) xs.length cap] xs := by
 refine ⟨some ⟨g, 0, none⟩, cap, rfl, hcap, trivial, fun j hj => ?_⟩
 have hj' : j < css.length := by omega
 refine ⟨g, 0, css[j], rfl, hc _ (kAx hj'), fun i v hv => ?_, hR j hj' hj⟩
 refine hS.cell ?_
 have hfl : ∀ (l : List (List Value)) (j i : Nat) (v : Value) (hj : j < l.length), (∀ c ∈ l, c.length = sz) → l[j][i]? = some v → (l.flatten ++ tail)[j * sz + i]? = some v := by
  intro l
  induction l with
  |nil => intro j i v hj; simp at hj
  |cons c l ih =>
   intro j i v hj hc hv
   have hcl := hc c (by simp)
   cases j with
   |zero =>
    simp only [kDb] at hv
    rw [Nat.zero_mul, kBl, kBi, kAc, kAz (kBt.1 hv).1]
    exact hv
   |succ j =>
    simp only [List.getElem_cons_succ] at hv
    rw [kBi, kAc, Nat.succ_mul, kBh (by omega), show j * sz + sz + i - c.length = j * sz + i by omega]
    exact ih j i v (by simpa using hj) (fun c h => hc c (by simp [h])) hv
 rw [kBl]
 exact hfl css j i v hj' hc hv
end Go.Proofs.YtkgibdhpijdbfaaGreatDoor
namespace Go.Srt
variable {α : Type} (lt : α → α → Bool)
def Srt (l : List α) : Prop := l.Pairwise fun x y => lt y x = false
structure Ord : Prop where
 asym : ∀ x y, lt x y = true → lt y x = false
 trans : ∀ x y z, lt y x = false → lt z y = false → lt z x = false
variable {lt}
theorem Srt.app {a b : List α} (ha : Srt lt a) (hb : Srt lt b) (h : ∀ x ∈ a, ∀ y ∈ b, lt y x = false) : Srt lt (a ++ b) := kBx.2 ⟨ha, hb, h⟩
theorem Srt.left {a b : List α} (h : Srt lt (a ++ b)) : Srt lt a := (kBx.1 h).1
theorem Srt.right {a b : List α} (h : Srt lt (a ++ b)) : Srt lt b := (kBx.1 h).2.1
theorem Srt.cross {a b : List α} (h : Srt lt (a ++ b)) : ∀ x ∈ a, ∀ y ∈ b, lt y x = false := (kBx.1 h).2.2
theorem Ord.irrefl (h : Ord lt) (x : α) : lt x x = false := by
 cases e : lt x x with
 |false => rfl
 |true => have := h.asym x x e; rw [e] at this; exact this
theorem Srt.at {l : List α} (h : Srt lt l) {i j : Nat} (hi : i < l.length) (hj : j < l.length) (hij : i < j) : lt l[j] l[i] = false := (kDe.1 h) i j hi hj hij
def swp (l : List α) (i j : Nat) (hi : i < l.length) (hj : j < l.length) : List α := (l.set i l[j]).set j l[i]
theorem swp_mid (P Q S : List α) (x y : α) (i j : Nat) (hi : i < (P ++ x :: Q ++ y :: S).length) (hj : j < (P ++ x :: Q ++ y :: S).length) (e1 : i = P.length) (e2 : j = P.length + 1 + Q.length) :
  swp (P ++ x :: Q ++ y :: S) i j hi hj = P ++ y :: Q ++ x :: S := by
 subst e1 e2
 have h1 : (P ++ x :: Q ++ y :: S)[P.length]? = some x := by simp
 have h2 : (P ++ x :: Q ++ y :: S)[P.length + 1 + Q.length]? = some y := by
  rw [kBh (by simp; omega)]
  have : P.length + 1 + Q.length - (P ++ x :: Q).length = 0 := by simp; omega
  rw [this]; rfl
 rw [kAp hi, Option.some.injEq] at h1
 rw [kAp hj, Option.some.injEq] at h2
 unfold swp
 rw [h1, h2]
 have e3 : (P ++ x :: Q ++ y :: S).set P.length y = P ++ y :: Q ++ y :: S := by
  rw [kAc, kCr _ _ (kAd _), Nat.sub_self]; simp
 rw [e3]
 have e4 : P.length + 1 + Q.length = (P ++ y :: Q).length := by simp; omega
 rw [e4, kCr _ _ (kAd _), Nat.sub_self]; rfl
def rg (P A Q B S : List α) (k : Nat) : List α := P ++ (B.take k ++ A.drop k) ++ Q ++ (A.take k ++ B.drop k) ++ S
section
variable {P A Q B S : List α} {k a b : Nat}
theorem rg_zero : rg P A Q B S 0 = P ++ A ++ Q ++ B ++ S := by simp [rg]
theorem rg_full (hAB : A.length = B.length) (hk : k = A.length) : rg P A Q B S k = P ++ B ++ Q ++ A ++ S := by
 subst hk
 have h : B.take A.length = B := by rw [hAB]; exact kAr
 have h2 : B.drop A.length = [] := by rw [hAB]; exact kCt
 unfold rg
 rw [h, h2]; simp
theorem rg_len (hAB : A.length = B.length) : (rg P A Q B S k).length = P.length + A.length + Q.length + B.length + S.length := by
 simp only [rg, kAa, kAo, kBf]; omega
theorem rg_form (hAB : A.length = B.length) (hk : k < A.length) : ∃ P' Q' S' x y, rg P A Q B S k = P' ++ x :: Q' ++ y :: S' ∧ rg P A Q B S (k + 1) = P' ++ y :: Q' ++ x :: S' ∧ P'.length = P.length + k ∧ P'.length + 1 + Q'.length = P.length + A.length + Q.length + k := by
 refine ⟨P ++ B.take k, A.drop (k + 1) ++ Q ++ A.take k, B.drop (k + 1) ++ S, A[k], B[k]'(by omega), ?_, ?_, ?_, ?_⟩
 ·have h1 := kBs hk
  have h2 := kBs (l := B) (i := k) (by omega)
  unfold rg
  rw [h1, h2]
  simp only [kAc, kBe]
 ·have h1 := kAn hk
  have h2 := kAn (l := B) (i := k) (by omega)
  unfold rg
  rw [h1, h2]
  simp only [kAc, kBe, kBj]
 ·simp only [kAa, kAo]; omega
 ·simp only [kAa, kAo, kBf]; omega
theorem rg_swp (hAB : A.length = B.length) (hk : k < A.length) (hi : a < (rg P A Q B S k).length) (hj : b < (rg P A Q B S k).length) (e1 : a = P.length + k) (e2 : b = P.length + A.length + Q.length + k) : ((rg P A Q B S k).set a (rg P A Q B S k)[b]).set b (rg P A Q B S k)[a] = rg P A Q B S (k + 1) := by
 obtain ⟨P', Q', S', x, y, h1, h2, h3, h4⟩ := rg_form (P := P) (Q := Q) (S := S) hAB hk
 rw [h2]
 simp only [h1] at hi hj ⊢
 exact swp_mid P' Q' S' x y a b hi hj (by omega) (by omega)
end
theorem swp_adj (P T : List α) (u x : α) (n : Nat) (h : n = P.length) : ((P ++ u :: x :: T).set (n + 1) u).set n x = P ++ x :: u :: T := by
 subst h
 rw [kCr _ _ (by omega), kCr _ _ (by omega)]
 have e : P.length + 1 - P.length = 1 := by omega
 rw [e, Nat.sub_self]; rfl
theorem swp_adj' (P T : List α) (u x : α) (n : Nat) (h : n = P.length) : ((P ++ u :: x :: T).set n x).set (n + 1) u = P ++ x :: u :: T := by
 subst h
 rw [kCr _ _ (by omega), kCr _ _ (by omega)]
 have e : P.length + 1 - P.length = 1 := by omega
 rw [e, Nat.sub_self]; rfl
theorem get_adj (P T : List α) (u x : α) (n : Nat) (h : n < (P ++ u :: x :: T).length) (e : n = P.length + 1) : (P ++ u :: x :: T)[n] = x := by
 subst e; simp
theorem cut_at {l : List α} {k : Nat} (h : k < l.length) : ∃ P x S, l = P ++ x :: S ∧ P.length = k ∧ l[k] = x := ⟨l.take k, l[k], l.drop (k + 1), by rw [← kBs h, kAu], by simp; omega, rfl⟩
theorem get_mid (P S : List α) (x : α) (k : Nat) (h : k < (P ++ x :: S).length) (e : k = P.length) : (P ++ x :: S)[k] = x := by
 subst e; simp
theorem insert_sorted (hO : Ord lt) {U V : List α} {x : α} (h : Srt lt (U ++ V)) (hV : ∀ v ∈ V, lt x v = true) (hU : ∀ u, U.getLast? = some u → lt x u = false) : Srt lt (U ++ x :: V) := by
 have hU' : ∀ u ∈ U, lt x u = false := by
  intro u hu
  cases hl : U.getLast? with
  |none => rw [List.getLast?_eq_none_iff] at hl; subst hl; cases hu
  |some z =>
   have hz := hU z hl
   obtain ⟨W, rfl⟩ : ∃ W, U = W ++ [z] := List.getLast?_eq_some_iff.1 hl
   rcases kAl.1 hu with hu | hu
   ·have := h.left.cross u hu z (by simp)
    exact hO.trans u z x this hz
   ·rw [kAy] at hu; subst hu; exact hz
 refine Srt.app h.left (kBa.2 ⟨fun v hv => hO.asym x v (hV v hv), h.right⟩) fun u hu y hy => ?_
 rcases kAf.1 hy with rfl | hy
 ·exact hU' u hu
 ·exact h.cross u hu y hy
theorem insert_sorted' (hO : Ord lt) {U V : List α} {x : α} (h : Srt lt (U ++ V)) (hU : ∀ u, U.getLast? = some u → lt u x = true) (hV : ∀ v, V.head? = some v → lt v x = false) : Srt lt (U ++ x :: V) := by
 have hU' : ∀ u ∈ U, lt x u = false := by
  intro u hu
  cases hl : U.getLast? with
  |none => rw [List.getLast?_eq_none_iff] at hl; subst hl; cases hu
  |some z =>
   have hz := hO.asym _ _ (hU z hl)
   obtain ⟨W, rfl⟩ : ∃ W, U = W ++ [z] := List.getLast?_eq_some_iff.1 hl
   rcases kAl.1 hu with hu | hu
   ·have := h.left.cross u hu z (by simp)
    exact hO.trans u z x this hz
   ·rw [kAy] at hu; subst hu; exact hz
 have hV' : ∀ v ∈ V, lt v x = false := by
  intro v hv
  cases V with
  |nil => cases hv
  |cons z V =>
   have hz := hV z rfl
   rcases kAf.1 hv with rfl | hv
   ·exact hz
   ·exact hO.trans x z v hz ((kBa.1 h.right).1 v hv)
 refine Srt.app h.left (kBa.2 ⟨hV', h.right⟩) fun u hu y hy => ?_
 rcases kAf.1 hy with rfl | hy
 ·exact hU' u hu
 ·exact h.cross u hu y hy
theorem insert_sortedR (hO : Ord lt) {U V : List α} {x : α} (h : Srt lt (U ++ V)) (hU : ∀ u, U.getLast? = some u → lt x u = false) (hV : ∀ v, V.head? = some v → lt x v = true) : Srt lt (U ++ x :: V) := by
 refine insert_sorted hO h (fun v hv => ?_) hU
 cases V with
 |nil => cases hv
 |cons z V =>
  have hz := hV z rfl
  rcases kAf.1 hv with rfl | hv
  ·exact hz
  ·have h1 := (kBa.1 h.right).1 v hv
   cases hxv : lt x v with
   |true => rfl
   |false =>
    have := hO.trans z v x h1 hxv
    rw [hz] at this; cases this
theorem take_last {l : List α} {k : Nat} (h : k < l.length) : (l.take (k + 1)).getLast? = some l[k] := by
 rw [kAn h, List.getLast?_concat]
theorem drop_head {l : List α} {k : Nat} (h : k < l.length) : (l.drop k).head? = some l[k] := by
 rw [kBs h]; rfl
theorem split_ok (hO : Ord lt) {A1 A2 B1 B2 : List α} (hA : Srt lt (A1 ++ A2)) (hB : Srt lt (B1 ++ B2)) (h1 : ∀ x y, A1.getLast? = some x → B2.head? = some y → lt y x = false) (h2 : ∀ x y, B1.getLast? = some x → A2.head? = some y → lt x y = true) :
  ∀ x ∈ A1 ++ B1, ∀ y ∈ A2 ++ B2, lt y x = false := by
 have last : ∀ {U : List α} {x : α}, Srt lt U → x ∈ U → ∃ z, U.getLast? = some z ∧ lt z x = false := by
  intro U x hU hx
  cases hl : U.getLast? with
  |none => rw [List.getLast?_eq_none_iff] at hl; subst hl; cases hx
  |some z =>
   refine ⟨z, rfl, ?_⟩
   obtain ⟨W, rfl⟩ : ∃ W, U = W ++ [z] := List.getLast?_eq_some_iff.1 hl
   rcases kAl.1 hx with hx | hx
   ·exact hU.cross x hx z (by simp)
   ·rw [kAy] at hx; subst hx; exact hO.irrefl _
 have head : ∀ {U : List α} {y : α}, Srt lt U → y ∈ U → ∃ z, U.head? = some z ∧ lt y z = false := by
  intro U y hU hy
  cases U with
  |nil => cases hy
  |cons z U =>
   refine ⟨z, rfl, ?_⟩
   rcases kAf.1 hy with rfl | hy
   ·exact hO.irrefl _
   ·exact (kBa.1 hU).1 y hy
 intro x hx y hy
 rcases kAl.1 hx with hx | hx <;> rcases kAl.1 hy with hy | hy
 ·exact hA.cross x hx y hy
 ·obtain ⟨z, e1, l1⟩ := last hA.left hx
  obtain ⟨u, e2, l2⟩ := head hB.right hy
  exact hO.trans x u y (hO.trans x z u l1 (h1 z u e1 e2)) l2
 ·obtain ⟨z, e1, l1⟩ := last hB.left hx
  obtain ⟨u, e2, l2⟩ := head hA.right hy
  exact hO.trans x u y (hO.trans x z u l1 (hO.asym z u (h2 z u e1 e2))) l2
 ·exact hB.cross x hx y hy
theorem noRot {P A1 A2 B1 B2 S : List α} (h : A2.length = 0 ∨ B1.length = 0) : P ++ (A1 ++ A2) ++ (B1 ++ B2) ++ S = P ++ (A1 ++ B1) ++ (A2 ++ B2) ++ S := by
 rcases h with h | h <;> rw [kCh.1 h] <;> simp
theorem oneSrt {A1 A2 B1 B2 : List α} (h : A1.length = 0 ∨ B1.length = 0) (hA : Srt lt (A1 ++ A2)) (hB : Srt lt (B1 ++ B2)) : Srt lt (A1 ++ B1) := by
 rcases h with h | h <;> rw [kCh.1 h]
 ·exact hB.left
 ·rw [kAk]; exact hA.left
theorem oneSrt' {A1 A2 B1 B2 : List α} (h : A2.length = 0 ∨ B2.length = 0) (hA : Srt lt (A1 ++ A2)) (hB : Srt lt (B1 ++ B2)) : Srt lt (A2 ++ B2) := by
 rcases h with h | h <;> rw [kCh.1 h]
 ·exact hB.right
 ·rw [kAk]; exact hA.right
theorem halves_perm {A1 A2 B1 B2 L R : List α} (h1 : L.Perm (A1 ++ B1)) (h2 : R.Perm (A2 ++ B2)) : (L ++ R).Perm ((A1 ++ A2) ++ (B1 ++ B2)) := by
 refine (h1.append h2).trans ?_
 rw [kAc, kAc]
 refine List.Perm.append_left A1 ?_
 rw [← kAc, ← kAc]
 exact List.Perm.append_right B2 kCi
def EdgeL (lt : α → α → Bool) (A B : List α) (d s s0 : Nat) : Prop := s = s0 ∨ ∃ x y, A[s - 1]? = some x ∧ B[d - s]? = some y ∧ lt y x = false
def EdgeR (lt : α → α → Bool) (A B : List α) (d r r0 : Nat) : Prop := r = r0 ∨ ∃ x y, A[r]? = some x ∧ B[d - r - 1]? = some y ∧ lt y x = true
def Full (lt : α → α → Bool) (n : Nat) (bs : List (List α)) : Prop := ∀ x ∈ bs, x.length = n ∧ Srt lt x
theorem Full.snoc {n : Nat} {bs : List (List α)} {x : List α} (h : Full lt n bs) (h1 : x.length = n) (h2 : Srt lt x) : Full lt n (bs ++ [x]) := by
 intro y hy
 rcases kAl.1 hy with hy | hy
 ·exact h y hy
 ·rw [kAy] at hy; subst hy; exact ⟨h1, h2⟩
theorem Full.hd {n : Nat} {x : List α} {bs : List (List α)} (h : Full lt n (x :: bs)) : x.length = n ∧ Srt lt x := h x (by simp)
theorem Full.tl {n : Nat} {x : List α} {bs : List (List α)} (h : Full lt n (x :: bs)) : Full lt n bs := fun y hy => h y (by simp [hy])
def Cks (lt : α → α → Bool) (n : Nat) (l : List α) : Prop := ∃ bs r, l = bs.flatten ++ r ∧ Full lt n bs ∧ r.length < n ∧ Srt lt r
theorem Cks.all {n : Nat} {l : List α} (h : Cks lt n l) (hn : l.length ≤ n) : Srt lt l := by
 obtain ⟨bs, r, rfl, hf, hr, hs⟩ := h
 cases bs with
 |nil => exact hs
 |cons x bs =>
  have h1 := hf.hd
  rw [kBi, kAa, kAa] at hn
  have e1 : bs.flatten = [] := kCh.1 (by omega)
  have e2 : r = [] := kCh.1 (by omega)
  rw [kBi, e1, e2, kAk, kAk]
  exact h1.2
theorem Srt.nil : Srt lt ([] : List α) := List.Pairwise.nil
theorem srt_unique (hA : ∀ x y, lt x y = false → lt y x = false → x = y) : ∀ {l m : List α}, Srt lt l → Srt lt m → l.Perm m → l = m
 |[], m, _, _, hp => (List.nil_perm.1 hp).symm
 |x :: l, [], _, _, hp => by have := List.perm_nil.1 hp; cases this
 |x :: l, y :: m, hl, hm, hp => by
  have hl' := kBa.1 hl
  have hm' := kBa.1 hm
  have hxy : x = y := by
   rcases kAf.1 (hp.mem_iff.1 (kAt (a := x) (l := l))) with e | e
   ·exact e
   ·rcases kAf.1 (hp.mem_iff.2 (kAt (a := y) (l := m))) with e' | e'
    ·exact e'.symm
    ·exact hA x y (hm'.1 x e) (hl'.1 y e')
  subst hxy
  rw [srt_unique hA hl'.2 hm'.2 hp.cons_inv]
def ins (lt : α → α → Bool) (l : List α) (x : α) : List α := (l.takeWhile fun y => !lt x y) ++ x :: (l.dropWhile fun y => !lt x y)
theorem ins_perm (l : List α) (x : α) : (ins lt l x).Perm (x :: l) := by
 unfold ins
 refine kBg.trans (List.Perm.cons _ ?_)
 rw [List.takeWhile_append_dropWhile]
theorem ins_srt (hO : Ord lt) {l : List α} (hl : Srt lt l) (x : α) : Srt lt (ins lt l x) := by
 unfold ins
 have h := List.takeWhile_append_dropWhile (p := fun y => !lt x y) (l := l)
 refine insert_sorted hO (by rw [h]; exact hl) ?_ ?_
 ·intro v hv
  have hd : Srt lt (l.dropWhile fun y => !lt x y) := by rw [← h] at hl; exact hl.right
  cases hdw : (l.dropWhile fun y => !lt x y) with
  |nil => rw [hdw] at hv; cases hv
  |cons z s =>
   have hz : lt x z = true := by
    have := List.head_dropWhile_not (p := fun y => !lt x y) (l := l) (by rw [hdw]; simp)
    simp only [hdw, List.head_cons] at this
    simpa using this
   rw [hdw] at hv hd
   rcases kAf.1 hv with rfl | hv
   ·exact hz
   ·have h1 := (kBa.1 hd).1 v hv
    cases hxv : lt x v with
    |true => rfl
    |false =>
     have := hO.trans z v x h1 hxv
     rw [hz] at this; cases this
 ·intro u hu
  have := kDl hu
  have h2 := kBd.1 (List.all_takeWhile (p := fun y => !lt x y) (l := l)) u this
  simpa using h2
end Go.Srt
namespace Go.Eng
open Go
theorem Arr.ldn {w0 w : World} {T : List Nat} {H : Heap} (hS : St w0 T H w) {a : Option Addr} {xs : List Value} (ha : Arr w0 T a xs) {b off n : Nat} (hb : a = some ⟨b, off, none⟩) {k : Nat} {l' : List Value} (hl : (xs.drop k).take n = l') (hn : l'.length = n) {K : List Value → Prop} (hk : K l') :
  LdN (fun w' => w = w') n b (off + k) K := by
 subst hl
 refine ⟨⟨_, hn, fun _ e j v hv => ?_, hk⟩⟩
 subst e
 have hv2 : xs[k + j]? = some v := by
  rw [kCw] at hv
  split at hv
  ·rw [kCv] at hv; exact hv
  ·cases hv
 obtain ⟨b', off', h1, h2, h3⟩ := ha (k + j) v hv2
 rw [hb] at h1
 simp only [Option.some.injEq, Addr.mk.injEq, and_true] at h1
 obtain ⟨rfl, rfl⟩ := h1
 have := hS.oldCell (a := ⟨b, off + (k + j), none⟩) h2 h3
 rw [kCs]; exact this
theorem Arr.dropS {w : World} {T : List Nat} {g off cap k sz : Nat} {xs ys : List Value} (h : Arr w T (some ⟨g, off, none⟩) (xs ++ ys)) (hx : xs.length = k * sz) (hc : ys ≠ [] → k < cap) : Arr w T (subA g off k cap sz) ys := by
 unfold subA
 split
 ·next hk =>
  have : ys = [] := by
   cases ys with
   |nil => rfl
   |cons y ys => have := hc (by simp); omega
  subst this; exact Arr.nil _ _ _
 ·intro j x hj
  obtain ⟨b, o, h1, h2, h3⟩ := h (xs.length + j) x (by rw [kBh (by omega), show xs.length + j - xs.length = j by omega]; exact hj)
  simp at h1
  obtain ⟨rfl, rfl⟩ := h1
  exact ⟨g, off + k * sz, rfl, h2, by rw [← hx, show off + xs.length + j = off + (xs.length + j) by omega]; exact h3⟩
theorem Arr.ldc {w0 w : World} {T : List Nat} {H : Heap} (hS : St w0 T H w) {g off i j : Nat} {xs : List Value} (ha : Arr w0 T (some ⟨g, off, none⟩) xs) {v : Value} (hx : xs[j]? = some v) (hi : i = off + j) {K : Value → Prop} (hk : K v) : LdC (fun w' => w = w') ⟨g, i, none⟩ K := by
 obtain ⟨b', off', h1, h2, h3⟩ := ha j v hx
 simp only [Option.some.injEq, Addr.mk.injEq, and_true] at h1
 obtain ⟨rfl, rfl⟩ := h1
 rw [hi]
 exact hS.ldOld h2 h3 hk
theorem Arr.ldnC {w0 : World} {T : List Nat} {H : Heap} {g off i n k : Nat} {xs l' : List Value} (ha : Arr w0 T (some ⟨g, off, none⟩) xs) (hl : (xs.drop k).take n = l') (hn : l'.length = n) (hi : i = off + k) {K : List Value → Prop} (hk : K l') :
  LdN (fun w' => St w0 T H w') n g i K := by
 subst hl
 refine ⟨⟨_, hn, fun _ h' j v hv => ?_, hk⟩⟩
 have hv2 : xs[k + j]? = some v := by
  rw [kCw] at hv
  split at hv
  ·rw [kCv] at hv; exact hv
  ·cases hv
 obtain ⟨b', off', h1, h2, h3⟩ := ha (k + j) v hv2
 simp only [Option.some.injEq, Addr.mk.injEq, and_true] at h1
 obtain ⟨rfl, rfl⟩ := h1
 have := h'.oldCell (a := ⟨g, off + (k + j), none⟩) h2 h3
 rw [hi, kCs]; exact this
end Go.Eng
namespace Go.Eng
open Go
section
variable {β : Type} {sz : Nat} {cv : β → List Value}
theorem flat_lenE (hc : ∀ x, (cv x).length = sz) (l : List β) : (l.flatMap cv).length = l.length * sz := by
 induction l with
 |nil => simp
 |cons p ps ih => rw [kBo, kAa, ih, hc, kAe, kCg, Nat.one_mul]; omega
theorem flat_splitE (P S : List β) (x : β) : (P ++ x :: S).flatMap cv = P.flatMap cv ++ (cv x ++ S.flatMap cv) := by simp
theorem flat_atE (hc : ∀ x, (cv x).length = sz) (l : List β) (tail : List Value) (k : Nat) (hk : k < l.length) : ((l.flatMap cv ++ tail).drop (k * sz)).take sz = cv l[k] := by
 obtain ⟨P, x, S, e1, e2, e3⟩ := Srt.cut_at hk
 rw [e3]
 rw [e1, flat_splitE, kAc]
 have hp : k * sz = (P.flatMap cv).length := by rw [flat_lenE hc, e2]
 rw [hp, List.drop_left, kAc]
 exact kCa (hc x)
theorem flat_setE (hc : ∀ x, (cv x).length = sz) (l : List β) (tail : List Value) (k : Nat) (hk : k < l.length) (y : β) : splice (l.flatMap cv ++ tail) (k * sz) (cv y) = (l.set k y).flatMap cv ++ tail := by
 obtain ⟨P, x, S, e1, e2, e3⟩ := Srt.cut_at hk
 have hp : k * sz = (P.flatMap cv).length := by rw [flat_lenE hc, e2]
 have e4 : l.set k y = P ++ y :: S := by
  rw [e1, ← e2, kCr _ _ (kAd _), Nat.sub_self]; rfl
 rw [e4, e1, flat_splitE, flat_splitE]
 unfold splice
 rw [hp]
 have e5 : (P.flatMap cv).length + (cv y).length = (P.flatMap cv ++ cv x).length := by rw [kAa, hc, hc]
 rw [e5]
 have e6 : P.flatMap cv ++ (cv x ++ S.flatMap cv) ++ tail = (P.flatMap cv ++ cv x) ++ (S.flatMap cv ++ tail) := by simp
 rw [show List.take (P.flatMap cv).length (P.flatMap cv ++ (cv x ++ S.flatMap cv) ++ tail) = P.flatMap cv by rw [kAc, List.take_left]]
 rw [e6, List.drop_left]
 simp
variable {w0 w : World} {T : List Nat} {H : Heap} {g : Nat} {l : List β} {tail : List Value} {t : TypeId} {F : Obj → Heap}
theorem St.ldEC (hc : ∀ x, (cv x).length = sz) (_hS : St w0 T H w) [Slot H g (.cells ⟨l.flatMap cv ++ tail⟩ t (0, 0)) F] {k q : Nat} (hk : k < l.length) (hq : q = k * sz) {K : List Value → Prop} (hK : K (cv l[k])) : LdN (fun w' => St w0 T H w') sz g q K := by
 refine ⟨⟨_, hc _, fun _ h j v hv => ?_, hK⟩⟩
 have hat := flat_atE hc l tail k hk
 refine h.cell ?_
 rw [← hat, kCw] at hv
 split at hv
 ·rw [kCv] at hv; rw [hq]; exact hv
 ·cases hv
theorem St.stE (hc : ∀ x, (cv x).length = sz) (h1 : ∀ x, (cv x).all Value.oneCell' = true) (hS : St w0 T H w) [Slot H g (.cells ⟨l.flatMap cv ++ tail⟩ t (0, 0)) F] {k q : Nat} (hk : k < l.length) (hq : q = k * sz) {y : β}
  {K : World → Prop} (hK : ∀ w', St w0 T (F (.cells ⟨(l.set k y).flatMap cv ++ tail⟩ t (0, 0))) w' → K w') : StG w g q (cv y) K := by
 have hle : (k + 1) * sz ≤ l.length * sz := kDn _ hk
 have hfit : k * sz + (cv y).length ≤ (l.flatMap cv ++ tail).length := by
  rw [kAa, flat_lenE hc, hc]
  rw [kCg, Nat.one_mul] at hle; omega
 subst hq
 refine ⟨⟨_, t, (0, 0), hS.mem, .inl (kAg _), hfit, fun v h => kBd.1 (h1 y) v h, ?_⟩⟩
 rw [flat_setE hc l tail k hk y]
 exact hK _ (hS.setRow (l := l.flatMap cv ++ tail))
theorem St.call1 {w' : World} {o : Obj} {L' : Heap} (hS : St w0 T [(g, o)] w) (h : St w [g] L' w') : St w0 T L' w' := hS.call (L := [(g, o)]) h
end
theorem IntG.half {z r : Int} {K : Value → Prop} (h0 : 0 ≤ z ∧ z ≤ 9223372036854775807) (hr : z / 2 = r) (hk : K (.int .i64 r)) : IntG .i64 (z.fdiv (2 ^ (min (Int.toNat 1) (IntKind.bits .u64)))) K := by
 have e : (2 : Int) ^ (min (Int.toNat 1) (IntKind.bits .u64)) = 2 := by decide
 rw [e, Int.fdiv_eq_ediv_of_nonneg _ (by decide), hr]
 exact IntG.nw (by omega) hk
end Go.Eng
namespace Go.Proofs.YtkgibdhpijdbfaaGreatDoor
open Go Go.Eng Go.Proofs Go.Srt
structure Elt (β : Type) where
 cv : β → List Value
 lt : β → β → Bool
abbrev FileM := Int × Int
def fileC (f : FileM) : List Value := [.int .i64 f.1, .int .i64 f.2]
def fileV (f : FileM) : Value := .agg ⟨fileC f⟩
set_option maxHeartbeats 4000000 in
theorem swapRange_api_File {w : World} {g cap len : Nat} {a b n : Int} {l P A Q B S : List FileM} {tail : List Value} {F : Value} (hh : Holds [(g, .cells ⟨l.flatMap fileC ++ tail⟩ T_api_File (0, 0))] w) (hl : l = P ++ A ++ Q ++ B ++ S) (hAB : A.length = B.length) (hlL : l.length = len) (hlen : len ≤ 16777216) (ha : a = P.length) (hb : b = P.length + A.length + Q.length) (hn : n = A.length) :
  Cl Tryz.prog f_slices_swapRangeCmpFunc_api_File [.slice (some ⟨g, 0, none⟩) len cap, .int .i64 a, .int .i64 b, .int .i64 n, F] w fun _ w' => St w [g] [(g, .cells ⟨(P ++ B ++ Q ++ A ++ S).flatMap fileC ++ tail⟩ T_api_File (0, 0))] w' := by
 have hS : St w [g] [(g, .cells ⟨l.flatMap fileC ++ tail⟩ T_api_File (0, 0))] w := St.enter hh
 have hll : l.length = P.length + A.length + Q.length + B.length + S.length := by rw [hl]; simp only [kAa]
 refine en_slices_swapRangeCmpFunc_api_File rfl ?_
 refine jq ⟨?_⟩
 refine SemW.loop (fun k : Nat => [(0, .slice (some ⟨g, 0, none⟩) len cap), (1, .int .i64 a), (2, .int .i64 b), (3, .int .i64 n), (10, .int .i64 k)])
  (fun k w' => k ≤ A.length ∧ St w [g] [(g, .cells ⟨(rg P A Q B S k).flatMap fileC ++ tail⟩ T_api_File (0, 0))] w') (fun k => A.length - k) 0
  ⟨rfl, rfl, rfl, rfl, rfl, trivial⟩ ⟨kAg _, by rw [rg_zero, ← hl]; exact hS⟩ ?_
 clear hS
 rintro k w1 ⟨hk, hS⟩
 have hrl := rg_len (P := P) (Q := Q) (S := S) (k := k) hAB
 by_cases hkl : k < A.length
 ·have hi : P.length + k < (rg P A Q B S k).length := by omega
  have hj : P.length + A.length + Q.length + k < (rg P A Q B S k).length := by omega
  have hsw := rg_swp hAB hkl hi hj rfl rfl
  refine jq ⟨?_⟩
  refine SemW.draw tblOk mixed (fun w' => St w [g] [(g, .cells ⟨(rg P A Q B S k).flatMap fileC ++ tail⟩ T_api_File (0, 0))] w') [4, 5, 6, 7, 21, 22, 23] [4, 5, 6, 7, 0, 1, 2, 3, 8, 9, 10, 11, 12, 13, 14, 15, 16, 17, 18, 19, 20, 21, 22, 23] (by kernel_rfl) hS.drew ?_
  have hS := hS.drew
  refine jr ⟨?_⟩
  refine St.ldEC (sz := 2) (fun _ => rfl) hS hj ?_ ?_
  ·omega
  refine jr ⟨?_⟩
  refine St.ldEC (sz := 2) (fun _ => rfl) hS hi ?_ ?_
  ·omega
  refine jr ⟨?_⟩
  refine St.stE (sz := 2) (fun _ => rfl) (fun _ => rfl) hS hi ?_ ?_
  ·omega
  intro w2 hS
  refine jr ⟨?_⟩
  refine St.stE (sz := 2) (fun _ => rfl) (fun _ => rfl) hS (k := P.length + A.length + Q.length + k) (by rw [kDc]; exact hj) ?_ ?_
  ·omega
  intro w3 hS
  simp only [hsw] at hS
  refine jq ⟨?_⟩
  exact ⟨k + 1, ⟨rfl, rfl, rfl, rfl, rfl, trivial⟩, ⟨by omega, hS⟩, by omega⟩
 ·refine jq ⟨?_⟩
  rw [rg_full hAB (by omega)] at hS
  exact hS
structure RT_api_File where
 P : List FileM
 U : List FileM
 V : List FileM
 S : List FileM
set_option maxHeartbeats 4000000 in
theorem rotate_api_File {w : World} {g cap len : Nat} {a m b : Int} {l P U V S : List FileM} {tail : List Value} {F : Value} (hh : Holds [(g, .cells ⟨l.flatMap fileC ++ tail⟩ T_api_File (0, 0))] w) (hl : l = P ++ U ++ V ++ S) (hlL : l.length = len) (hlen : len ≤ 16777216) (ha : a = P.length) (hm : m = P.length + U.length) (hb : b = P.length + U.length + V.length) (hU : 0 < U.length) (hV : 0 < V.length) :
  Cl Tryz.prog f_slices_rotateCmpFunc_api_File [.slice (some ⟨g, 0, none⟩) len cap, .int .i64 a, .int .i64 m, .int .i64 b, F] w fun _ w' => St w [g] [(g, .cells ⟨(P ++ V ++ U ++ S).flatMap fileC ++ tail⟩ T_api_File (0, 0))] w' := by
 have hS : St w [g] [(g, .cells ⟨l.flatMap fileC ++ tail⟩ T_api_File (0, 0))] w := St.enter hh
 have hll : l.length = P.length + U.length + V.length + S.length := by rw [hl]; simp only [kAa]
 refine en_slices_rotateCmpFunc_api_File rfl ?_
 refine jq ⟨?_⟩
 refine SemW.loop (fun x : RT_api_File => [(0, .slice (some ⟨g, 0, none⟩) len cap), (2, .int .i64 m), (4, F), (10, .int .i64 x.U.length), (11, .int .i64 x.V.length)])
  (fun x w' => (P ++ V ++ U ++ S = x.P ++ x.V ++ x.U ++ x.S ∧ m = x.P.length + x.U.length ∧ 0 < x.U.length ∧ 0 < x.V.length) ∧ St w [g] [(g, .cells ⟨(x.P ++ x.U ++ x.V ++ x.S).flatMap fileC ++ tail⟩ T_api_File (0, 0))] w') (fun x => x.U.length + x.V.length) ⟨P, U, V, S⟩
  ⟨rfl, rfl, rfl, by show _ = Value.int .i64 _; congr 1; simp only; omega, by show _ = Value.int .i64 _; congr 1; simp only; omega, trivial⟩ ⟨⟨rfl, hm, hU, hV⟩, by rw [← hl]; exact hS⟩ ?_
 clear hS
 rintro ⟨P1, U1, V1, S1⟩ w1 ⟨⟨hT, hm1, hU1, hV1⟩, hS⟩
 simp only at hT hm1 hU1 hV1 hS ⊢
 have hl1 : (P1 ++ U1 ++ V1 ++ S1).length = len := by
  have := congrArg List.length hT
  simp only [kAa] at this ⊢; omega
 have hl2 : (P1 ++ U1 ++ V1 ++ S1).length = P1.length + U1.length + V1.length + S1.length := by simp only [kAa]
 by_cases hne : U1.length = V1.length
 ·refine jq ⟨?_⟩
  refine (swapRange_api_File hS.holds (Q := []) (A := U1) (B := V1) (P := P1) (S := S1) (by rw [kAk]) hne hl1 hlen (by omega) (by simp only [kAq]; omega) rfl).mono ?_
  intro _ w2 hS'
  have hS := hS.call1 hS'
  rw [kAk, ← hT] at hS
  refine jq ⟨?_⟩
  exact hS
 ·by_cases hgt : V1.length < U1.length
  ·obtain ⟨X, Y, hXY, hX⟩ : ∃ X Y, U1 = X ++ Y ∧ X.length = V1.length := ⟨U1.take V1.length, U1.drop V1.length, (kAu _ _).symm, by rw [kAo]; omega⟩
   have hY : U1.length = V1.length + Y.length := by rw [hXY, kAa, hX]
   refine jq ⟨?_⟩
   refine (swapRange_api_File hS.holds (Q := Y) (A := X) (B := V1) (P := P1) (S := S1) (by rw [hXY]; simp only [kAc]) hX hl1 hlen (by omega) (by omega) (by omega)).mono ?_
   intro _ w2 hS'
   have hS := hS.call1 hS'
   refine jq ⟨?_⟩
   refine ⟨⟨P1 ++ V1, Y, X, S1⟩, ⟨rfl, rfl, rfl, by show _ = Value.int .i64 _; congr 1; simp only; omega, by show _ = Value.int .i64 _; congr 1; simp only; omega, trivial⟩, ⟨⟨by rw [hT, hXY]; simp only [kAc], by simp only [kAa]; omega, by simp only; omega, by simp only; omega⟩, hS⟩, by simp only; omega⟩
  ·obtain ⟨X, Y, hXY, hY⟩ : ∃ X Y, V1 = X ++ Y ∧ Y.length = U1.length := ⟨V1.take (V1.length - U1.length), V1.drop (V1.length - U1.length), (kAu _ _).symm, by rw [kBf]; omega⟩
   have hX : V1.length = X.length + U1.length := by rw [hXY, kAa, hY]
   refine jq ⟨?_⟩
   refine (swapRange_api_File hS.holds (Q := X) (A := U1) (B := Y) (P := P1) (S := S1) (by rw [hXY]; simp only [kAc]) hY.symm hl1 hlen (by omega) (by omega) rfl).mono ?_
   intro _ w2 hS'
   have hS := hS.call1 hS'
   refine jq ⟨?_⟩
   refine ⟨⟨P1, Y, X, U1 ++ S1⟩, ⟨rfl, rfl, rfl, by show _ = Value.int .i64 _; congr 1; simp only; omega, by show _ = Value.int .i64 _; congr 1; simp only; omega, trivial⟩, ⟨⟨by rw [hT, hXY]; simp only [kAc], by simp only; omega, by simp only; omega, by simp only; omega⟩, by simp only [kAc] at hS ⊢; exact hS⟩, by simp only; omega⟩
structure IT_api_File where
 M : List FileM
 k : Nat
structure JT_api_File where
 U : List FileM
 V : List FileM
set_option maxHeartbeats 8000000 in
theorem insertion_api_File {fc : FuncId} {cm : FileM → FileM → Int} (hO : Ord fun x y => decide (cm x y < 0)) (hcm : ∀ (x y : FileM) (w : World), Cl Tryz.prog fc [fileV x, fileV y] w fun v w' => v = .int .i64 (cm x y) ∧ St w [] [] w') {w : World} {g cap len : Nat} {a b : Int} {l P M S : List FileM} {tail : List Value} (hh : Holds [(g, .cells ⟨l.flatMap fileC ++ tail⟩ T_api_File (0, 0))] w) (hl : l = P ++ M ++ S) (hlL : l.length = len) (hlen : len ≤ 16777216) (ha : a = P.length) (hb : b = P.length + M.length) :
  Cl Tryz.prog f_slices_insertionSortCmpFunc_api_File [.slice (some ⟨g, 0, none⟩) len cap, .int .i64 a, .int .i64 b, .func (.func fc) ⟨[]⟩ ⟨[]⟩] w fun _ w' => ∃ M', M'.Perm M ∧ Srt (fun x y => decide (cm x y < 0)) M' ∧ St w [g] [(g, .cells ⟨(P ++ M' ++ S).flatMap fileC ++ tail⟩ T_api_File (0, 0))] w' := by
 have hS : St w [g] [(g, .cells ⟨l.flatMap fileC ++ tail⟩ T_api_File (0, 0))] w := St.enter hh
 have hll : len = P.length + M.length + S.length := by rw [← hlL, hl]; simp only [kAa]
 subst hl
 refine en_slices_insertionSortCmpFunc_api_File rfl ?_
 refine jq ⟨?_⟩
 refine SemW.loop (fun x : IT_api_File => [(0, .slice (some ⟨g, 0, none⟩) len cap), (1, .int .i64 a), (2, .int .i64 b), (3, .func (.func fc) ⟨[]⟩ ⟨[]⟩), (8, .int .i64 (a + 1 + x.k))])
  (fun x w' => (x.M.Perm M ∧ (0 < M.length → x.k + 1 ≤ M.length) ∧ Srt (fun x y => decide (cm x y < 0)) (x.M.take (x.k + 1))) ∧ St w [g] [(g, .cells ⟨(P ++ x.M ++ S).flatMap fileC ++ tail⟩ T_api_File (0, 0))] w') (fun x => M.length - x.k) ⟨M, 0⟩
  ⟨rfl, rfl, rfl, rfl, by show _ = Value.int .i64 _; congr 1; simp only; omega, trivial⟩ ⟨⟨List.Perm.refl _, by simp only; omega, by cases M with | nil => exact Srt.nil | cons z M => exact List.pairwise_singleton _ _⟩, hS⟩ ?_
 clear hS
 rintro ⟨M1, k⟩ w1 ⟨⟨hp, hk, hs⟩, hS⟩
 simp only at hp hk hs hS ⊢
 have hpl := hp.length_eq
 by_cases hkl : k + 1 < M.length
 ·obtain ⟨B, x, R, hM1, hB, -⟩ := cut_at (l := M1) (k := k + 1) (by omega)
  rw [hM1, kCa hB] at hs
  subst hM1
  refine jq ⟨?_⟩
  refine SemW.loop (fun y : JT_api_File => [(0, .slice (some ⟨g, 0, none⟩) len cap), (1, .int .i64 a), (2, .int .i64 b), (3, .func (.func fc) ⟨[]⟩ ⟨[]⟩), (8, .int .i64 (a + 1 + k)), (9, .int .i64 (a + y.U.length))])
   (fun y w' => (y.U ++ y.V = B ∧ ∀ v ∈ y.V, decide (cm x v < 0) = true) ∧ St w [g] [(g, .cells ⟨(P ++ (y.U ++ x :: y.V ++ R) ++ S).flatMap fileC ++ tail⟩ T_api_File (0, 0))] w') (fun y => y.U.length) ⟨B, []⟩
   ⟨rfl, rfl, rfl, rfl, rfl, by show _ = Value.int .i64 _; congr 1; simp only; omega, trivial⟩ ⟨⟨by simp, by simp⟩, by simpa using hS⟩ ?_
  clear hS
  rintro ⟨U, V⟩ w2 ⟨⟨hUV, hV⟩, hS⟩
  simp only at hUV hV hS ⊢
  have hUl : U.length + V.length = k + 1 := by rw [← hB, ← hUV, kAa]
  have hcl : (P ++ (U ++ x :: V ++ R) ++ S).length = len := by
   have := hp.length_eq
   simp only [kAa, kAe] at this ⊢; omega
  by_cases hU : U = []
  ·subst hU
   simp only [kAq]
   refine jq ⟨?_⟩
   refine SemW.draw tblOk mixed (fun w' => St w [g] [(g, .cells ⟨(P ++ ([] ++ x :: V ++ R) ++ S).flatMap fileC ++ tail⟩ T_api_File (0, 0))] w') [14, 15, 16] [0, 1, 2, 3, 4, 5, 6, 7, 8, 9, 10, 11, 12, 13, 14, 15, 16] (by kernel_rfl) hS.drew ?_
   have hS := hS.drew
   refine jr ⟨?_⟩
   refine ⟨⟨x :: V ++ R, k + 1⟩, ⟨rfl, rfl, rfl, rfl, by show _ = Value.int .i64 _; congr 1; simp only; omega, trivial⟩, ⟨⟨?_, by simp only; omega, ?_⟩, by simpa using hS⟩, by simp only; omega⟩
   ·refine List.Perm.trans ?_ hp
    rw [← hUV, kBj]
    simp only [kBe]
    exact kBg.symm
   ·have e4 : (x :: V ++ R).take (k + 1 + 1) = x :: V := kCa (by rw [kAq] at hUl; simp only [kAe]; omega)
    simp only [e4]
    rw [← hUV] at hs
    exact insert_sorted hO (U := []) hs hV nofun
  ·obtain ⟨U', u, rfl⟩ : ∃ U' u, U = U' ++ [u] := ⟨U.dropLast, U.getLast hU, (List.dropLast_concat_getLast hU).symm⟩
   rw [kAa, kBv] at hUl
   have hUu : (U' ++ [u]).length = U'.length + 1 := by simp
   rw [hUu]
   have e0 : P ++ (U' ++ [u] ++ x :: V ++ R) ++ S = (P ++ U') ++ u :: x :: (V ++ R ++ S) := by simp
   rw [e0] at hS
   have hi : P.length + U'.length < ((P ++ U') ++ u :: x :: (V ++ R ++ S)).length := by simp only [kAa, kAe]; omega
   have hj : P.length + U'.length + 1 < ((P ++ U') ++ u :: x :: (V ++ R ++ S)).length := by simp only [kAa, kAe]; omega
   have e1 : ((P ++ U') ++ u :: x :: (V ++ R ++ S))[P.length + U'.length] = u := get_mid _ _ _ _ _ (by rw [kAa])
   have e2 : ((P ++ U') ++ u :: x :: (V ++ R ++ S))[P.length + U'.length + 1] = x := get_adj _ _ _ _ _ _ (by rw [kAa])
   have hsw := swp_adj (P ++ U') (V ++ R ++ S) u x (P.length + U'.length) (by rw [kAa])
   refine jq ⟨?_⟩
   refine SemW.draw tblOk mixed (fun w' => St w [g] [(g, .cells ⟨(P ++ U' ++ u :: x :: (V ++ R ++ S)).flatMap fileC ++ tail⟩ T_api_File (0, 0))] w') [14, 15, 16] [0, 1, 2, 3, 4, 5, 6, 7, 8, 9, 10, 11, 12, 13, 14, 15, 16] (by kernel_rfl) hS.drew ?_
   have hS := hS.drew
   refine jr ⟨?_⟩
   refine St.ldEC (sz := 2) (cv := fileC) (fun _ => rfl) hS hj ?_ ?_
   ·omega
   rw [e2]
   refine jr ⟨?_⟩
   refine St.ldEC (sz := 2) (cv := fileC) (fun _ => rfl) hS hi ?_ ?_
   ·omega
   rw [e1]
   refine jr ⟨?_⟩
   refine (hcm x u _).mono ?_
   rintro _ w3 ⟨rfl, hS'⟩
   have hS := hS.call0 hS'
   by_cases hlt : cm x u < 0
   ·refine jq ⟨?_⟩
    refine SemW.draw tblOk mixed (fun w' => St w [g] [(g, .cells ⟨(P ++ U' ++ u :: x :: (V ++ R ++ S)).flatMap fileC ++ tail⟩ T_api_File (0, 0))] w') [2, 3, 4, 15, 16, 17] [2, 3, 4, 0, 1, 5, 6, 7, 8, 9, 10, 11, 12, 13, 14, 15, 16, 17] (by kernel_rfl) hS.drew ?_
    have hS := hS.drew
    refine jr ⟨?_⟩
    refine St.ldEC (sz := 2) (cv := fileC) (fun _ => rfl) hS hi ?_ ?_
    ·omega
    rw [e1]
    refine jr ⟨?_⟩
    refine St.ldEC (sz := 2) (cv := fileC) (fun _ => rfl) hS hj ?_ ?_
    ·omega
    rw [e2]
    refine jr ⟨?_⟩
    refine St.stE (sz := 2) (cv := fileC) (fun _ => rfl) (fun _ => rfl) hS hj ?_ ?_
    ·omega
    intro w4 hS
    refine jr ⟨?_⟩
    refine St.stE (sz := 2) (cv := fileC) (fun _ => rfl) (fun _ => rfl) hS (k := P.length + U'.length) (by rw [kDc]; exact hi) ?_ ?_
    ·omega
    intro w5 hS
    rw [hsw] at hS
    refine jq ⟨?_⟩
    refine ⟨⟨U', u :: V⟩, ⟨rfl, rfl, rfl, rfl, rfl, by show _ = Value.int .i64 _; congr 1; simp only; omega, trivial⟩, ⟨⟨by rw [← hUV]; simp, ?_⟩, ?_⟩, by simp only; omega⟩
    ·intro v hv
     rcases kAf.1 hv with rfl | hv
     ·exact decide_eq_true hlt
     ·exact hV v hv
    ·have e3 : P ++ (U' ++ x :: (u :: V) ++ R) ++ S = P ++ U' ++ x :: u :: (V ++ R ++ S) := by simp
     simp only [e3]; exact hS
   ·refine jq ⟨?_⟩
    refine ⟨⟨U' ++ [u] ++ x :: V ++ R, k + 1⟩, ⟨rfl, rfl, rfl, rfl, by show _ = Value.int .i64 _; congr 1; simp only; omega, trivial⟩, ⟨⟨?_, by simp only; omega, ?_⟩, ?_⟩, by simp only; omega⟩
    ·refine List.Perm.trans ?_ hp
     rw [← hUV]
     refine (List.Perm.append_right R (kBg)).trans ?_
     simp only [kBe]
     exact kBg.symm
    ·have e4 : (U' ++ [u] ++ x :: V ++ R).take (k + 1 + 1) = U' ++ [u] ++ x :: V := kCa (by simp only [kAa, kAe, kAq]; omega)
     simp only [e4]
     rw [← hUV] at hs
     exact insert_sorted hO hs hV fun z hz => (by rw [List.getLast?_concat, Option.some.injEq] at hz; subst hz; exact decide_eq_false hlt)
    ·rw [← e0] at hS; exact hS
 ·refine jq ⟨?_⟩
  refine ⟨M1, hp, ?_, hS⟩
  rw [kDi (by omega)] at hs
  exact hs
set_option maxHeartbeats 8000000 in
theorem merge1_api_File {fc : FuncId} {cm : FileM → FileM → Int} (hO : Ord fun x y => decide (cm x y < 0)) (hcm : ∀ (x y : FileM) (w : World), Cl Tryz.prog fc [fileV x, fileV y] w fun v w' => v = .int .i64 (cm x y) ∧ St w [] [] w') {w : World} {g cap len : Nat} {a m b : Int} {l P B S : List FileM} {x : FileM} {tail : List Value} (hh : Holds [(g, .cells ⟨l.flatMap fileC ++ tail⟩ T_api_File (0, 0))] w) (hl : l = P ++ x :: B ++ S) (hlL : l.length = len) (hlen : len ≤ 16777216) (ha : a = P.length) (hm : m = P.length + 1) (hb : b = P.length + 1 + B.length) (hB : Srt (fun x y => decide (cm x y < 0)) B) :
  Cl Tryz.prog f_slices_symMergeCmpFunc_api_File [.slice (some ⟨g, 0, none⟩) len cap, .int .i64 a, .int .i64 m, .int .i64 b, .func (.func fc) ⟨[]⟩ ⟨[]⟩] w fun _ w' => ∃ M', M'.Perm (x :: B) ∧ Srt (fun x y => decide (cm x y < 0)) M' ∧ St w [g] [(g, .cells ⟨(P ++ M' ++ S).flatMap fileC ++ tail⟩ T_api_File (0, 0))] w' := by
 have hS : St w [g] [(g, .cells ⟨l.flatMap fileC ++ tail⟩ T_api_File (0, 0))] w := St.enter hh
 have hll : len = P.length + 1 + B.length + S.length := by rw [← hlL, hl]; simp only [kAa, kAe]; omega
 subst hl
 refine en_slices_symMergeCmpFunc_api_File rfl ?_
 refine jq ⟨?_⟩
 refine SemW.loop (fun x : Nat × Nat => [(0, .slice (some ⟨g, 0, none⟩) len cap), (1, .int .i64 a), (2, .int .i64 m), (3, .int .i64 b), (4, .func (.func fc) ⟨[]⟩ ⟨[]⟩), (10, .int .i64 (m + x.1)), (11, .int .i64 (m + x.2))])
  (fun z w' => (z.1 ≤ z.2 ∧ z.2 ≤ B.length ∧ (∀ u, (B.take z.1).getLast? = some u → cm u x < 0) ∧ (∀ v, (B.drop z.2).head? = some v → ¬ cm v x < 0)) ∧ St w [g] [(g, .cells ⟨(P ++ x :: B ++ S).flatMap fileC ++ tail⟩ T_api_File (0, 0))] w') (fun z => z.2 - z.1) (0, B.length)
  ⟨rfl, rfl, rfl, rfl, rfl, by show _ = Value.int .i64 _; congr 1; simp only; omega, by show _ = Value.int .i64 _; congr 1; simp only; omega, trivial⟩ ⟨⟨kAg _, kAd _, by simp, by simp⟩, hS⟩ ?_
 clear hS
 rintro ⟨i, j⟩ w1 ⟨⟨hij, hj, h1, h2⟩, hS⟩
 simp only at hij hj h1 h2 hS ⊢
 by_cases hlt : i < j
 ·refine jq ⟨?_⟩
  obtain ⟨h, hh⟩ : ∃ h, h = (i + j) / 2 := ⟨_, rfl⟩
  have hi : P.length + 1 + h < (P ++ x :: B ++ S).length := by omega
  have hjj : P.length < (P ++ x :: B ++ S).length := by omega
  have hhB : h < B.length := by omega
  have e1 : (P ++ x :: B ++ S)[P.length + 1 + h] = B[h] := by
   have e3 : P ++ x :: B ++ S = (P ++ [x]) ++ B ++ S := by simp
   have e4 : (P ++ [x]).length = P.length + 1 := by simp
   have e5 : (P ++ x :: B ++ S)[P.length + 1 + h]? = some B[h] := by
    rw [e3, kAc, kBh (by omega), e4, show P.length + 1 + h - (P.length + 1) = h by omega, kAz hhB, kAp hhB]
   rw [kAp hi, Option.some.injEq] at e5
   exact e5
  have e2 : (P ++ x :: B ++ S)[P.length] = x := by
   have e3 : P ++ x :: B ++ S = P ++ x :: (B ++ S) := by simp
   have := get_mid P (B ++ S) x P.length (by rw [← e3]; exact hjj) rfl
   simp only [e3]; exact this
  refine IntG.half (r := m + h) (by omega) (by omega) ?_
  refine jq ⟨?_⟩
  refine SemW.draw tblOk mixed (fun w' => St w [g] [(g, .cells ⟨(P ++ x :: B ++ S).flatMap fileC ++ tail⟩ T_api_File (0, 0))] w') [9, 10] [0, 1, 2, 3, 4, 5, 6, 7, 8, 9, 10] (by kernel_rfl) hS.drew ?_
  have hS := hS.drew
  refine jr ⟨?_⟩
  refine St.ldEC (sz := 2) (cv := fileC) (fun _ => rfl) hS hi ?_ ?_
  ·omega
  rw [e1]
  refine jr ⟨?_⟩
  refine St.ldEC (sz := 2) (cv := fileC) (fun _ => rfl) hS hjj ?_ ?_
  ·omega
  rw [e2]
  refine jr ⟨?_⟩
  refine (hcm B[h] x _).mono ?_
  rintro _ w3 ⟨rfl, hS'⟩
  have hS := hS.call0 hS'
  by_cases hc : cm B[h] x < 0
  ·refine jq ⟨?_⟩
   refine ⟨(h + 1, j), ⟨rfl, rfl, rfl, rfl, rfl, by show _ = Value.int .i64 _; congr 1; simp only; omega, rfl, trivial⟩, ⟨⟨by simp only; omega, hj, fun u hu => ?_, h2⟩, hS⟩, by simp only; omega⟩
   rw [take_last hhB, Option.some.injEq] at hu; subst hu; exact hc
  ·refine jq ⟨?_⟩
   refine ⟨(i, h), ⟨rfl, rfl, rfl, rfl, rfl, rfl, rfl, trivial⟩, ⟨⟨by simp only; omega, by simp only; omega, h1, fun u hu => ?_⟩, hS⟩, by simp only; omega⟩
   rw [drop_head hhB, Option.some.injEq] at hu; subst hu; exact hc
 ·have hij' : i = j := by omega
  subst hij'
  refine jq ⟨?_⟩
  obtain ⟨B1, B2, rfl, hB1⟩ : ∃ B1 B2, B = B1 ++ B2 ∧ B1.length = i := ⟨B.take i, B.drop i, (kAu _ _).symm, by rw [kAo]; omega⟩
  rw [kCa hB1] at h1
  rw [List.drop_left' hB1] at h2
  rw [kAa] at hj hb hll
  refine SemW.loop (fun z : List FileM × List FileM => [(0, .slice (some ⟨g, 0, none⟩) len cap), (10, .int .i64 (m + i)), (13, .int .i64 (a + z.1.length))])
   (fun z w' => (z.1 ++ z.2 = B1) ∧ St w [g] [(g, .cells ⟨(P ++ z.1 ++ x :: (z.2 ++ B2 ++ S)).flatMap fileC ++ tail⟩ T_api_File (0, 0))] w') (fun z => z.2.length) ([], B1)
   ⟨rfl, rfl, by show _ = Value.int .i64 _; congr 1; simp only [kAq]; omega, trivial⟩ ⟨rfl, by simpa using hS⟩ ?_
  clear hS
  rintro ⟨V, W⟩ w2 ⟨hVW, hS⟩
  simp only at hVW hS ⊢
  have hVl : V.length + W.length = i := by rw [← hB1, ← hVW, kAa]
  cases W with
  |nil =>
   rw [kAk] at hVW
   subst hVW
   rw [kAq] at hVl
   refine jq ⟨?_⟩
   refine ⟨V ++ x :: B2, kBg, insert_sorted' hO hB (fun u hu => decide_eq_true (h1 u hu)) (fun v hv => decide_eq_false (h2 v hv)), by simpa using hS⟩
  |cons y W =>
   rw [kAe] at hVl
   have hcl : (P ++ V ++ x :: y :: (W ++ B2 ++ S)).length = len := by
    simp only [kAa, kAe]; omega
   have hS : St w [g] [(g, .cells ⟨(P ++ V ++ x :: y :: (W ++ B2 ++ S)).flatMap fileC ++ tail⟩ T_api_File (0, 0))] w2 := hS
   have hi : P.length + V.length < (P ++ V ++ x :: y :: (W ++ B2 ++ S)).length := by omega
   have hjj : P.length + V.length + 1 < (P ++ V ++ x :: y :: (W ++ B2 ++ S)).length := by omega
   have e1 : (P ++ V ++ x :: y :: (W ++ B2 ++ S))[P.length + V.length] = x := get_mid _ _ _ _ _ (by rw [kAa])
   have e2 : (P ++ V ++ x :: y :: (W ++ B2 ++ S))[P.length + V.length + 1] = y := get_adj _ _ _ _ _ _ (by rw [kAa])
   have hsw := swp_adj' (P ++ V) (W ++ B2 ++ S) x y (P.length + V.length) (by rw [kAa])
   refine jq ⟨?_⟩
   refine SemW.draw tblOk mixed (fun w' => St w [g] [(g, .cells ⟨(P ++ V ++ x :: y :: (W ++ B2 ++ S)).flatMap fileC ++ tail⟩ T_api_File (0, 0))] w') [2, 3, 4, 15, 16, 17] [2, 3, 4, 0, 1, 5, 6, 7, 8, 9, 10, 11, 12, 13, 14, 15, 16, 17] (by kernel_rfl) hS.drew ?_
   have hS := hS.drew
   refine jr ⟨?_⟩
   refine St.ldEC (sz := 2) (cv := fileC) (fun _ => rfl) hS hjj ?_ ?_
   ·omega
   rw [e2]
   refine jr ⟨?_⟩
   refine St.ldEC (sz := 2) (cv := fileC) (fun _ => rfl) hS hi ?_ ?_
   ·omega
   rw [e1]
   refine jr ⟨?_⟩
   refine St.stE (sz := 2) (cv := fileC) (fun _ => rfl) (fun _ => rfl) hS hi ?_ ?_
   ·omega
   intro w4 hS
   refine jr ⟨?_⟩
   refine St.stE (sz := 2) (cv := fileC) (fun _ => rfl) (fun _ => rfl) hS (k := P.length + V.length + 1) (by rw [kDc]; exact hjj) ?_ ?_
   ·omega
   intro w5 hS
   rw [hsw] at hS
   refine jq ⟨?_⟩
   refine ⟨(V ++ [y], W), ⟨rfl, rfl, by show _ = Value.int .i64 _; congr 1; simp only [kAa, kAe, kAq]; omega, trivial⟩, ⟨by rw [← hVW]; simp, ?_⟩, by simp only [kAe]; omega⟩
   have e3 : P ++ (V ++ [y]) ++ x :: (W ++ B2 ++ S) = P ++ V ++ y :: x :: (W ++ B2 ++ S) := by simp
   simp only [e3]; exact hS
set_option maxHeartbeats 8000000 in
theorem merge2_api_File {fc : FuncId} {cm : FileM → FileM → Int} (hO : Ord fun x y => decide (cm x y < 0)) (hcm : ∀ (x y : FileM) (w : World), Cl Tryz.prog fc [fileV x, fileV y] w fun v w' => v = .int .i64 (cm x y) ∧ St w [] [] w') {w : World} {g cap len : Nat} {a m b : Int} {l P A S : List FileM} {y : FileM} {tail : List Value} (hh : Holds [(g, .cells ⟨l.flatMap fileC ++ tail⟩ T_api_File (0, 0))] w) (hl : l = P ++ A ++ y :: S) (hlL : l.length = len) (hlen : len ≤ 16777216) (ha : a = P.length) (hm : m = P.length + A.length) (hb : b = P.length + A.length + 1) (hA : Srt (fun x y => decide (cm x y < 0)) A) (hA2 : 2 ≤ A.length) :
  Cl Tryz.prog f_slices_symMergeCmpFunc_api_File [.slice (some ⟨g, 0, none⟩) len cap, .int .i64 a, .int .i64 m, .int .i64 b, .func (.func fc) ⟨[]⟩ ⟨[]⟩] w fun _ w' => ∃ M', M'.Perm (A ++ [y]) ∧ Srt (fun x y => decide (cm x y < 0)) M' ∧ St w [g] [(g, .cells ⟨(P ++ M' ++ S).flatMap fileC ++ tail⟩ T_api_File (0, 0))] w' := by
 have hS : St w [g] [(g, .cells ⟨l.flatMap fileC ++ tail⟩ T_api_File (0, 0))] w := St.enter hh
 have hll : len = P.length + A.length + 1 + S.length := by rw [← hlL, hl]; simp only [kAa, kAe]; omega
 subst hl
 refine en_slices_symMergeCmpFunc_api_File rfl ?_
 refine jq ⟨?_⟩
 refine SemW.loop (fun x : Nat × Nat => [(0, .slice (some ⟨g, 0, none⟩) len cap), (1, .int .i64 a), (2, .int .i64 m), (3, .int .i64 b), (4, .func (.func fc) ⟨[]⟩ ⟨[]⟩), (14, .int .i64 (a + x.1)), (15, .int .i64 (a + x.2))])
  (fun z w' => (z.1 ≤ z.2 ∧ z.2 ≤ A.length ∧ (∀ u, (A.take z.1).getLast? = some u → ¬ cm y u < 0) ∧ (∀ v, (A.drop z.2).head? = some v → cm y v < 0)) ∧ St w [g] [(g, .cells ⟨(P ++ A ++ y :: S).flatMap fileC ++ tail⟩ T_api_File (0, 0))] w') (fun z => z.2 - z.1) (0, A.length)
  ⟨rfl, rfl, rfl, rfl, rfl, by show _ = Value.int .i64 _; congr 1; simp only; omega, by show _ = Value.int .i64 _; congr 1; simp only; omega, trivial⟩ ⟨⟨kAg _, kAd _, by simp, by simp⟩, hS⟩ ?_
 clear hS
 rintro ⟨i, j⟩ w1 ⟨⟨hij, hj, h1, h2⟩, hS⟩
 simp only at hij hj h1 h2 hS ⊢
 by_cases hlt : i < j
 ·refine jq ⟨?_⟩
  obtain ⟨h, hh⟩ : ∃ h, h = (i + j) / 2 := ⟨_, rfl⟩
  have hi : P.length + A.length < (P ++ A ++ y :: S).length := by omega
  have hjj : P.length + h < (P ++ A ++ y :: S).length := by omega
  have hhA : h < A.length := by omega
  have e1 : (P ++ A ++ y :: S)[P.length + A.length] = y := get_mid _ _ _ _ _ (by rw [kAa])
  have e2 : (P ++ A ++ y :: S)[P.length + h] = A[h] := by
   have e5 : (P ++ A ++ y :: S)[P.length + h]? = some A[h] := by
    rw [kAc, kBh (by omega), show P.length + h - P.length = h by omega, kAz hhA, kAp hhA]
   rw [kAp hjj, Option.some.injEq] at e5
   exact e5
  refine IntG.half (r := a + h) (by omega) (by omega) ?_
  refine jq ⟨?_⟩
  refine SemW.draw tblOk mixed (fun w' => St w [g] [(g, .cells ⟨(P ++ A ++ y :: S).flatMap fileC ++ tail⟩ T_api_File (0, 0))] w') [9, 10, 11] [0, 1, 2, 3, 4, 5, 6, 7, 8, 9, 10, 11] (by kernel_rfl) hS.drew ?_
  have hS := hS.drew
  refine jr ⟨?_⟩
  refine St.ldEC (sz := 2) (cv := fileC) (fun _ => rfl) hS hi ?_ ?_
  ·omega
  rw [e1]
  refine jr ⟨?_⟩
  refine St.ldEC (sz := 2) (cv := fileC) (fun _ => rfl) hS hjj ?_ ?_
  ·omega
  rw [e2]
  refine jr ⟨?_⟩
  refine (hcm y A[h] _).mono ?_
  rintro _ w3 ⟨rfl, hS'⟩
  have hS := hS.call0 hS'
  by_cases hc : cm y A[h] < 0
  ·refine jq ⟨?_⟩
   refine ⟨(i, h), ⟨rfl, rfl, rfl, rfl, rfl, rfl, rfl, trivial⟩, ⟨⟨by simp only; omega, by simp only; omega, h1, fun u hu => ?_⟩, hS⟩, by simp only; omega⟩
   rw [drop_head hhA, Option.some.injEq] at hu; subst hu; exact hc
  ·refine jq ⟨?_⟩
   refine ⟨(h + 1, j), ⟨rfl, rfl, rfl, rfl, rfl, by show _ = Value.int .i64 _; congr 1; simp only; omega, rfl, trivial⟩, ⟨⟨by simp only; omega, hj, fun u hu => ?_, h2⟩, hS⟩, by simp only; omega⟩
   rw [take_last hhA, Option.some.injEq] at hu; subst hu; exact hc
 ·have hij' : i = j := by omega
  subst hij'
  refine jq ⟨?_⟩
  obtain ⟨A1, A2, rfl, hA1⟩ : ∃ A1 A2, A = A1 ++ A2 ∧ A1.length = i := ⟨A.take i, A.drop i, (kAu _ _).symm, by rw [kAo]; omega⟩
  rw [kCa hA1] at h1
  rw [List.drop_left' hA1] at h2
  rw [kAa] at hj hb hll hm
  refine SemW.loop (fun z : List FileM × List FileM => [(0, .slice (some ⟨g, 0, none⟩) len cap), (14, .int .i64 (a + i)), (17, .int .i64 (a + i + z.1.length))])
   (fun z w' => (z.1 ++ z.2 = A2) ∧ St w [g] [(g, .cells ⟨(P ++ A1 ++ z.1 ++ y :: (z.2 ++ S)).flatMap fileC ++ tail⟩ T_api_File (0, 0))] w') (fun z => z.1.length) (A2, [])
   ⟨rfl, rfl, by show _ = Value.int .i64 _; congr 1; simp only; omega, trivial⟩ ⟨by simp, by simpa using hS⟩ ?_
  clear hS
  rintro ⟨V, W⟩ w2 ⟨hVW, hS⟩
  simp only at hVW hS ⊢
  have hVl : V.length + W.length = A2.length := by rw [← hVW, kAa]
  by_cases hV : V = []
  ·subst hV
   rw [kBj] at hVW
   subst hVW
   simp only [kAq]
   refine jq ⟨?_⟩
   refine ⟨A1 ++ y :: W, kBg.trans (List.perm_append_singleton y (A1 ++ W)).symm, insert_sortedR hO hA (fun u hu => decide_eq_false (h1 u hu)) (fun v hv => decide_eq_true (h2 v hv)), by simpa using hS⟩
  ·obtain ⟨V', x, rfl⟩ : ∃ V' x, V = V' ++ [x] := ⟨V.dropLast, V.getLast hV, (List.dropLast_concat_getLast hV).symm⟩
   have hVx : (V' ++ [x]).length = V'.length + 1 := by simp
   rw [hVx] at hVl ⊢
   have e0 : P ++ A1 ++ (V' ++ [x]) ++ y :: (W ++ S) = P ++ A1 ++ V' ++ x :: y :: (W ++ S) := by simp
   rw [e0] at hS
   have hcl : (P ++ A1 ++ V' ++ x :: y :: (W ++ S)).length = len := by
    simp only [kAa, kAe]; omega
   have hn : P.length + A1.length + V'.length = (P ++ A1 ++ V').length := by simp only [kAa]
   have hi : P.length + A1.length + V'.length < (P ++ A1 ++ V' ++ x :: y :: (W ++ S)).length := by omega
   have hjj : P.length + A1.length + V'.length + 1 < (P ++ A1 ++ V' ++ x :: y :: (W ++ S)).length := by omega
   have e1 : (P ++ A1 ++ V' ++ x :: y :: (W ++ S))[P.length + A1.length + V'.length] = x := get_mid _ _ _ _ _ hn
   have e2 : (P ++ A1 ++ V' ++ x :: y :: (W ++ S))[P.length + A1.length + V'.length + 1] = y := get_adj _ _ _ _ _ _ (by rw [hn])
   have hsw := swp_adj (P ++ A1 ++ V') (W ++ S) x y (P.length + A1.length + V'.length) hn
   refine jq ⟨?_⟩
   refine SemW.draw tblOk mixed (fun w' => St w [g] [(g, .cells ⟨(P ++ A1 ++ V' ++ x :: y :: (W ++ S)).flatMap fileC ++ tail⟩ T_api_File (0, 0))] w') [2, 3, 4, 15, 16, 17] [2, 3, 4, 0, 1, 5, 6, 7, 8, 9, 10, 11, 12, 13, 14, 15, 16, 17] (by kernel_rfl) hS.drew ?_
   have hS := hS.drew
   refine jr ⟨?_⟩
   refine St.ldEC (sz := 2) (cv := fileC) (fun _ => rfl) hS hi ?_ ?_
   ·omega
   rw [e1]
   refine jr ⟨?_⟩
   refine St.ldEC (sz := 2) (cv := fileC) (fun _ => rfl) hS hjj ?_ ?_
   ·omega
   rw [e2]
   refine jr ⟨?_⟩
   refine St.stE (sz := 2) (cv := fileC) (fun _ => rfl) (fun _ => rfl) hS hjj ?_ ?_
   ·omega
   intro w4 hS
   refine jr ⟨?_⟩
   refine St.stE (sz := 2) (cv := fileC) (fun _ => rfl) (fun _ => rfl) hS (k := P.length + A1.length + V'.length) (by rw [kDc]; exact hi) ?_ ?_
   ·omega
   intro w5 hS
   rw [hsw] at hS
   refine jq ⟨?_⟩
   refine ⟨(V', x :: W), ⟨rfl, rfl, by show _ = Value.int .i64 _; congr 1; simp only; omega, trivial⟩, ⟨by rw [← hVW]; simp, hS⟩, by simp only; omega⟩
end Go.Proofs.YtkgibdhpijdbfaaGreatDoor
