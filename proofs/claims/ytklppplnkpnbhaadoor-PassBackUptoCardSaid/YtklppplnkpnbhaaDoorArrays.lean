/- Arrays: an element of an array's value, slices of an array, copies within a block. -/
import Derived.Test.YtklppplnkpnbhaaDoorBase
import Derived.Laws.CopyRow
namespace Go.Eng
open Go

section
variable {P : Program} {T0 : Tbl}
theorem indexArr (hT : TOk P T0) {t e : TypeId} {i ie : TI} {n : Nat} (hi : tf T0 t = some i) (hk : i.k = .arr n e 1) (hie : tf T0 e = some ie) (hagg : ie.agg = false) {cs : List Value} {j : Nat} (hj : j < n) {v : Value} (hv : cs[j]? = some v) {k : IntKind} {K : Value → Prop} (hK : K v) :
    PureRun P (Instr.index t (.agg ⟨cs⟩) (.int k (j : Int))) K := by
  refine ⟨v, fun w => ?_, hK⟩
  have ht := und_of hT hi; rw [hk] at ht
  obtain ⟨hu, hs⟩ := ht
  cases hinf : P.info? e with
  | none => rw [hinf] at hs; simp at hs
  | some inf =>
    rw [hinf] at hs
    have hs1 : inf.size = 1 := by simpa using hs
    have ha : (isAgg e).run P w = .ok false w := load_one hT hie hagg w
    simp [Instr.index, run_underlying hu, asIntOf, hj, part, ha, sizeOf, typeInfo, hinf, hs1]
    rw [hv]; rfl
theorem sliceArrL (hT : TOk P T0) {t e : TypeId} {i : TI} {n sz : Nat} (hi : tf T0 t = some i) (hk : i.k = .arr n e sz) {b off l : Nat} (hl : l ≤ n) {k : IntKind} {C : World → Prop} {K : Value → Prop} (hK : K (.slice (subA b off l n sz) (n - l) (n - l))) :
    RdG P (Instr.sliceAt t (.pointer (some ⟨b, off, none⟩)) (some (.int k (l : Int))) none none) C K := by
  refine ⟨_, fun w _ => ?_, hK⟩
  have ht := und_of hT hi; rw [hk] at ht
  obtain ⟨hu, hs⟩ := ht
  cases hinf : P.info? e with
  | none => rw [hinf] at hs; simp at hs
  | some inf =>
    rw [hinf] at hs
    have hs1 : inf.size = sz := by simpa using hs
    have e1 : P.elem t = e := by simp [Program.elem, hu]
    have e2 : P.arrayLen t = n := by simp [Program.arrayLen, hu]
    rw [run_sliceAt_array_l w t ⟨b, off, none⟩ (by rw [e1, e2]; exact hu) k l (by omega) (by rw [e2]; omega)]
    rw [e1, e2]
    simp [sizeOf, typeInfo, hinf, hs1, slicedAt, subA, Addr.add_eq]
theorem sliceArrM (hT : TOk P T0) {t e : TypeId} {i : TI} {n sz : Nat} (hi : tf T0 t = some i) (hk : i.k = .arr n e sz) {b off l : Nat} (hl : l < n) {k : IntKind} {C : World → Prop} {K : Value → Prop} (hK : K (.slice (some ⟨b, off + l * sz, none⟩) (n - l) (n - l))) :
    RdG P (Instr.sliceAt t (.pointer (some ⟨b, off, none⟩)) (some (.int k (l : Int))) none none) C K := by
  refine sliceArrL hT hi hk (by omega) ?_
  unfold subA; rw [if_neg (by omega)]; exact hK
theorem sliceArrH (hT : TOk P T0) {t e : TypeId} {i : TI} {n sz : Nat} (hi : tf T0 t = some i) (hk : i.k = .arr n e sz) {b off h : Nat} (hl : h ≤ n) {k : IntKind} {C : World → Prop} {K : Value → Prop} (hK : K (.slice (some ⟨b, off, none⟩) h n)) :
    RdG P (Instr.sliceAt t (.pointer (some ⟨b, off, none⟩)) none (some (.int k (h : Int))) none) C K := by
  refine ⟨_, fun w _ => ?_, hK⟩
  have ht := und_of hT hi; rw [hk] at ht
  obtain ⟨hu, hs⟩ := ht
  cases hinf : P.info? e with
  | none => rw [hinf] at hs; simp at hs
  | some inf =>
    rw [hinf] at hs
    have hs1 : inf.size = sz := by simpa using hs
    have e1 : P.elem t = e := by simp [Program.elem, hu]
    have e2 : P.arrayLen t = n := by simp [Program.arrayLen, hu]
    rw [run_sliceAt_array_h w t ⟨b, off, none⟩ (by rw [e1, e2]; exact hu) k h (by omega) (by rw [e2]; omega)]
    rw [e1, e2]
    simp [sizeOf, typeInfo, hinf, hs1, slicedAt, Addr.add_eq]
theorem sliceArrA (hT : TOk P T0) {t e : TypeId} {i : TI} {n sz : Nat} (hi : tf T0 t = some i) (hk : i.k = .arr n e sz) {b off : Nat} {C : World → Prop} {K : Value → Prop} (hK : K (.slice (some ⟨b, off, none⟩) n n)) :
    RdG P (Instr.sliceAt t (.pointer (some ⟨b, off, none⟩)) none none none) C K := by
  refine ⟨_, fun w _ => ?_, hK⟩
  have ht := und_of hT hi; rw [hk] at ht
  obtain ⟨hu, hs⟩ := ht
  cases hinf : P.info? e with
  | none => rw [hinf] at hs; simp at hs
  | some inf =>
    rw [hinf] at hs
    have hs1 : inf.size = sz := by simpa using hs
    have e1 : P.elem t = e := by simp [Program.elem, hu]
    have e2 : P.arrayLen t = n := by simp [Program.arrayLen, hu]
    rw [run_sliceAt_array_all w t ⟨b, off, none⟩ (by rw [e1, e2]; exact hu)]
    rw [e1, e2]
    simp [sizeOf, typeInfo, hinf, slicedAt, Addr.add_eq]
/-- copy into an own block, from whatever is read. -/
theorem St.copy (hT : TOk P T0) {t u e ty : TypeId} {i : TI} (hi : tf T0 t = some i) (hk : i.k = .slice e 1) {w0 w : World} {T : List Nat} {H : Heap} {g off n cap : Nat} {l : List Value} {et : TypeId} {F : Obj → Heap} (hS : St w0 T H w) [hs : Slot H g (.cells ⟨l⟩ et (0, 0)) F]
    {a : Addr} {m c : Nat} {cs : List Value} (hn : cs.length = min m n) (ha : Arr w [] (some a) cs) (h1 : cs.all Value.oneCell' = true) (hfit : off + cs.length ≤ l.length) {K : Value → World → Prop}
    (h : ∀ w', St w0 T (F (.cells ⟨splice l off cs⟩ et (0, 0))) w' → K (.int .i64 cs.length) w') :
    RunG P (Builtin.copy_ ⟨[t, u]⟩ ty ⟨[.slice (some ⟨g, off, none⟩) n cap, .slice (some a) m c]⟩) w K := by
  have ht := und_of hT hi; rw [hk] at ht
  have hmem := hS.mem (b := g)
  refine RunG.of (run_copy_row P w t u ty e g off n cap a m c ⟨l⟩ et cs ht.1 ht.2 hmem hn (fun j v hj => ?_) (by simpa using hfit) (fun v hv => List.all_eq_true.1 h1 v hv)) ?_
  · obtain ⟨b', o', h2, -, h3⟩ := ha j v hj
    cases h2
    rw [Addr.add_eq]; exact h3
  · exact h _ (hS.setRow (l := l))
end
end Go.Eng
