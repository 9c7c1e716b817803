/- Texts of this claim, one behind the other. -/
import Derived.Test.YthpmmfapolcaiaaGreatDoorZ2
import Derived.Laws.MakeOwn
import Derived.Test.YthpmmfapolcaiaaGreatDoorZ1
import Derived.Test.YthpmmfapolcaiaaGreatDoorZ0
import Derived.Laws.CopyRow
import Derived.Laws.StructEq
/- Package order: Text, Int, Key; package rows: key, End, Reply. -/
namespace Go.Eng
open Go
/-- make([]T, 0, n). -/
theorem St.mk0 {P : Program} {T0 : Tbl} (hT : TOk P T0) {t e : TypeId} {sz : Nat} {i ie : TI} (hi : tf T0 t = some i) (hk : i.k = .slice e sz) (hie : tf T0 e = some ie) (_hz : ie.zero.cells.size = sz) {w0 w : World} {T : List Nat} {H : Heap} (hS : St w0 T H w) (n : Nat) (hn : n * sz ≤ 16777216) (hn2 : n * ie.bytes ≤ 281474976710656) (hn3 : n ≤ 1099511627776)
    {K : Value → World → Prop} (h : ∀ a L w', Vec e sz a 0 n [] L → St w0 T (L ++ H) w' → K (.slice a 0 n) w') : RunG P (Instr.makeSlice t (.int .i64 0) (.int .i64 (n : Int))) w K := by
  obtain ⟨inf, hinf, hzz, hs1, hby⟩ := info_of hT hie
  have ht := und_of hT hi; rw [hk] at ht
  have hsz : inf.size = sz := by have := ht.2; rw [hinf] at this; simpa using this
  have hr := run_makeSlice w t e inf ie.zero ht.1 hinf hzz .i64 .i64 0 (n : Int) (by omega) (by omega) (by rw [hsz]; simpa using hn) (by rw [hby]; rw [Nat.mul_comm] at hn2; omega) (by omega)
  rw [hsz] at hr
  have hl : (madeCells ie.zero.cells ((n : Int).toNat * sz)).toList.length = n * sz := by rw [Array.length_toList, size_madeCells]; simp
  have hv := Vec.row (e := e) (sz := sz) w.heap.size 0 n [] (madeCells ie.zero.cells ((n : Int).toNat * sz)).toList (by simp) (by simpa using hl) (Nat.zero_le _)
  exact RunG.of hr (h _ _ _ hv (hS.alloc _))
end Go.Eng
namespace Go.Proofs.YthpmmfapolcaiaaGreatDoor
open Go Go.Eng Go.Proofs

/-- A part of a key. -/
inductive PartM where
  | text (s : Bytes)
  | num (n : Int)
def partC : PartM → List Value
  | .text s => [.int .i64 2, .int .i64 0, Str s]
  | .num n => [.int .i64 1, .int .i64 n, Str []]
def partB : PartM → Bytes
  | .text s => [2] ++ s ++ [0, 0]
  | .num n => [1] ++ be8 (unum n)
def PartM.ok : PartM → Prop
  | .text s => Lib.countByte s 0 = 0 ∧ s.length ≤ 1048576
  | .num n => -9223372036854775808 ≤ n ∧ n ≤ 9223372036854775807
theorem partC_len (p : PartM) : (partC p).length = 3 := by cases p <;> rfl
theorem partsC_len (ps : List PartM) : (ps.flatMap partC).length = 3 * ps.length := by
  induction ps with
  | nil => rfl
  | cons p ps ih => rw [List.flatMap_cons, List.length_append, ih, partC_len, List.length_cons]; omega
theorem partsC_at (ps : List PartM) (k : Nat) (hk : k < ps.length) : ((ps.flatMap partC).drop (k * 3)).take 3 = partC ps[k] := by
  induction ps generalizing k with
  | nil => simp at hk
  | cons p ps ih =>
    cases k with
    | zero => simp only [Nat.zero_mul, List.drop_zero, List.flatMap_cons, List.getElem_cons_zero]; exact List.take_left' (partC_len p)
    | succ k =>
      rw [List.flatMap_cons, show (k + 1) * 3 = (partC p).length + k * 3 by rw [partC_len]; omega, List.drop_length_add_append]
      exact ih k (by simpa using hk)
theorem partB_len (p : PartM) (h : p.ok) : (partB p).length ≤ 1048579 := by
  cases p with
  | text s => have h2 : s.length ≤ 1048576 := h.2; simp [partB]; omega
  | num n => simp [partB, be8]
def partsB (ps : List PartM) : Bytes := (ps.map partB).flatten
theorem partsB_succ (ps : List PartM) (k : Nat) (hk : k < ps.length) : partsB (ps.take (k + 1)) = partsB (ps.take k) ++ partB ps[k] := by
  unfold partsB
  rw [List.take_succ_eq_append_getElem hk, List.map_append, List.flatten_append]; simp
theorem partsB_len (ps : List PartM) (h : ∀ p ∈ ps, p.ok) : (partsB ps).length ≤ 1048579 * ps.length := by
  induction ps with
  | nil => simp [partsB]
  | cons p ps ih =>
    have h1 := ih fun q hq => h q (List.mem_cons_of_mem _ hq)
    have h2 := partB_len p (h p List.mem_cons_self)
    simp only [partsB, List.map_cons, List.flatten_cons, List.length_append, List.length_cons] at h1 ⊢
    omega
set_option maxHeartbeats 4000000 in
theorem Key_spec {w : World} {a : Option Addr} {cap : Nat} {ps : List PartM} (ha : Arr w [] a (ps.flatMap partC)) (hok : ∀ p ∈ ps, p.ok) (hl : ps.length ≤ 1024) :
    Cl Tryz.prog f_order_Key [.slice a ps.length cap] w fun v w' => v = .tuple ⟨[Str (partsB ps), .int .i64 0]⟩ ∧ St w [] [] w' := by
  have hS := St.start w
  refine en_order_Key rfl ?_
  repeat (first | refine SemW.run tblOk ?_ | refine jA (by omega) ?_ | refine jB (by omega) ?_ | refine jC (by omega) ?_ | refine jD (by omega) ?_ | refine jE rfl ?_ | refine jF (by omega) ?_ | (refine jG ?_; first | with_reducible (first | refine jH ?_ | refine jI ?_ | refine jJ ?_ | refine jK ?_ | refine jL ?_) | refine jM (by omega) ?_ | refine jN (by omega) ?_ | with_reducible refine jM rfl ?_ | refine jM (by assumption) ?_ | refine jN (by assumption) ?_ | refine jM (by decide) ?_ | refine jN (by decide) ?_) | refine jF (ptr_ok tblOk rfl rfl) ?_ | refine jO (fun _ => by kernel_rfl) ?_ | refine jF (by decide) ?_)
  refine hS.al ?_
  intro b w1 _ hS
  have hS : St w [] [(b, .cells ⟨[.pointer none, .slice none 0 0]⟩ T_order_builder (0, 0))] w1 := hS
  repeat (first | refine SemW.run tblOk ?_ | refine jA (by omega) ?_ | refine jB (by omega) ?_ | refine jC (by omega) ?_ | refine jD (by omega) ?_ | refine jE rfl ?_ | refine jF (by omega) ?_ | (refine jG ?_; first | with_reducible (first | refine jH ?_ | refine jI ?_ | refine jJ ?_ | refine jK ?_ | refine jL ?_) | refine jM (by omega) ?_ | refine jN (by omega) ?_ | with_reducible refine jM rfl ?_ | refine jM (by assumption) ?_ | refine jN (by assumption) ?_ | refine jM (by decide) ?_ | refine jN (by decide) ?_) | refine jF (ptr_ok tblOk rfl rfl) ?_ | refine jO (fun _ => by kernel_rfl) ?_ | refine jF (by decide) ?_)
  refine SemW.loop (fun k : Nat => [(4, ptr b), (9, .slice a ps.length cap), (10, .int .i64 ps.length), (11, .int .i64 k)])
    (fun k w' => k ≤ ps.length ∧ ∃ L, Bld b (partsB (ps.take k)) L ∧ St w [] L w') (fun k => ps.length - k) 0
    ⟨rfl, rfl, rfl, rfl, trivial⟩ ⟨Nat.zero_le _, _, Bld.new b, hS⟩ ?_
  rintro k w2 ⟨hk, L1, hB, hS⟩
  have hpl := partsB_len (ps.take k) (fun p hp => hok p (List.mem_of_mem_take hp))
  rw [List.length_take] at hpl
  have hpl : (partsB (ps.take k)).length ≤ 1048579 * ps.length := Nat.le_trans hpl (Nat.mul_le_mul_left _ (Nat.min_le_right _ _))
  by_cases hkl : k < ps.length
  · have hcl := partsC_len ps
    obtain ⟨g, off, rfl, -, -⟩ := ha.get (j := k * 3) (by omega)
    have hat := partsC_at ps k hkl
    have hpok := hok ps[k] (List.getElem_mem hkl)
    have hsucc := partsB_succ ps k hkl
    repeat (first | refine SemW.run tblOk ?_ | refine jA (by omega) ?_ | refine jB (by omega) ?_ | refine jC (by omega) ?_ | refine jD (by omega) ?_ | refine jE rfl ?_ | refine jF (by omega) ?_ | (refine jG ?_; first | with_reducible (first | refine jH ?_ | refine jI ?_ | refine jJ ?_ | refine jK ?_ | refine jL ?_) | refine jM (by omega) ?_ | refine jN (by omega) ?_ | with_reducible refine jM rfl ?_ | refine jM (by assumption) ?_ | refine jN (by assumption) ?_ | refine jM (by decide) ?_ | refine jN (by decide) ?_) | refine jF (ptr_ok tblOk rfl rfl) ?_ | refine jO (fun _ => by kernel_rfl) ?_ | refine jF (by decide) ?_)
    refine Arr.ldn hS ha rfl (k := k * 3) hat (partC_len _) ?_
    generalize ps[k] = p at hat hpok hsucc ⊢
    cases p with
    | text s =>
      obtain ⟨hp0, hp1⟩ := hpok
      unfold partC
      repeat (first | refine SemW.run tblOk ?_ | refine jA (by omega) ?_ | refine jB (by omega) ?_ | refine jC (by omega) ?_ | refine jD (by omega) ?_ | refine jE rfl ?_ | refine jF (by omega) ?_ | (refine jG ?_; first | with_reducible (first | refine jH ?_ | refine jI ?_ | refine jJ ?_ | refine jK ?_ | refine jL ?_) | refine jM (by omega) ?_ | refine jN (by omega) ?_ | with_reducible refine jM rfl ?_ | refine jM (by assumption) ?_ | refine jN (by assumption) ?_ | refine jM (by decide) ?_ | refine jN (by decide) ?_) | refine jF (ptr_ok tblOk rfl rfl) ?_ | refine jO (fun _ => by kernel_rfl) ?_ | refine jF (by decide) ?_)
      refine hS.al ?_
      intro pb w3 _ hS
      repeat (first | refine SemW.run tblOk ?_ | refine jA (by omega) ?_ | refine jB (by omega) ?_ | refine jC (by omega) ?_ | refine jD (by omega) ?_ | refine jE rfl ?_ | refine jF (by omega) ?_ | (refine jG ?_; first | with_reducible (first | refine jH ?_ | refine jI ?_ | refine jJ ?_ | refine jK ?_ | refine jL ?_) | refine jM (by omega) ?_ | refine jN (by omega) ?_ | with_reducible refine jM rfl ?_ | refine jM (by assumption) ?_ | refine jN (by assumption) ?_ | refine jM (by decide) ?_ | refine jN (by decide) ?_) | refine jF (ptr_ok tblOk rfl rfl) ?_ | refine jO (fun _ => by kernel_rfl) ?_ | refine jF (by decide) ?_ | refine hS.ld rfl ?_ | refine hS.ldn rfl ?_ | (refine hS.st rfl rfl ?_; intro _ hS))
      refine Cl.mono (text_spec hB (hS.part (L := L1)) hp0 (by omega)) ?_
      rintro _ w4 ⟨L4, hB4, hS'⟩
      have hS := hS.call (L := L1) hS'
      have hB4 : Bld b (partsB (ps.take (k + 1))) L4 := by rw [hsucc]; exact hB4
      repeat (first | refine SemW.run tblOk ?_ | refine jA (by omega) ?_ | refine jB (by omega) ?_ | refine jC (by omega) ?_ | refine jD (by omega) ?_ | refine jE rfl ?_ | refine jF (by omega) ?_ | (refine jG ?_; first | with_reducible (first | refine jH ?_ | refine jI ?_ | refine jJ ?_ | refine jK ?_ | refine jL ?_) | refine jM (by omega) ?_ | refine jN (by omega) ?_ | with_reducible refine jM rfl ?_ | refine jM (by assumption) ?_ | refine jN (by assumption) ?_ | refine jM (by decide) ?_ | refine jN (by decide) ?_) | refine jF (ptr_ok tblOk rfl rfl) ?_ | refine jO (fun _ => by kernel_rfl) ?_ | refine jF (by decide) ?_ | refine hS.ld rfl ?_ | refine hS.ldn rfl ?_ | (refine hS.st rfl rfl ?_; intro _ hS))
      exact ⟨k + 1, ⟨rfl, rfl, rfl, rfl, trivial⟩, ⟨by omega, L4, hB4, hS.sub (List.sublist_cons_self _ _)⟩, by omega⟩
    | num n =>
      unfold partC
      repeat (first | refine SemW.run tblOk ?_ | refine jA (by omega) ?_ | refine jB (by omega) ?_ | refine jC (by omega) ?_ | refine jD (by omega) ?_ | refine jE rfl ?_ | refine jF (by omega) ?_ | (refine jG ?_; first | with_reducible (first | refine jH ?_ | refine jI ?_ | refine jJ ?_ | refine jK ?_ | refine jL ?_) | refine jM (by omega) ?_ | refine jN (by omega) ?_ | with_reducible refine jM rfl ?_ | refine jM (by assumption) ?_ | refine jN (by assumption) ?_ | refine jM (by decide) ?_ | refine jN (by decide) ?_) | refine jF (ptr_ok tblOk rfl rfl) ?_ | refine jO (fun _ => by kernel_rfl) ?_ | refine jF (by decide) ?_)
      refine hS.al ?_
      intro pb w3 _ hS
      repeat (first | refine SemW.run tblOk ?_ | refine jA (by omega) ?_ | refine jB (by omega) ?_ | refine jC (by omega) ?_ | refine jD (by omega) ?_ | refine jE rfl ?_ | refine jF (by omega) ?_ | (refine jG ?_; first | with_reducible (first | refine jH ?_ | refine jI ?_ | refine jJ ?_ | refine jK ?_ | refine jL ?_) | refine jM (by omega) ?_ | refine jN (by omega) ?_ | with_reducible refine jM rfl ?_ | refine jM (by assumption) ?_ | refine jN (by assumption) ?_ | refine jM (by decide) ?_ | refine jN (by decide) ?_) | refine jF (ptr_ok tblOk rfl rfl) ?_ | refine jO (fun _ => by kernel_rfl) ?_ | refine jF (by decide) ?_ | refine hS.ld rfl ?_ | refine hS.ldn rfl ?_ | (refine hS.st rfl rfl ?_; intro _ hS))
      refine Cl.mono (number_spec hB (hS.part (L := L1)) n hpok (by omega)) ?_
      rintro _ w4 ⟨L4, hB4, hS'⟩
      have hS := hS.call (L := L1) hS'
      have hB4 : Bld b (partsB (ps.take (k + 1))) L4 := by rw [hsucc]; exact hB4
      repeat (first | refine SemW.run tblOk ?_ | refine jA (by omega) ?_ | refine jB (by omega) ?_ | refine jC (by omega) ?_ | refine jD (by omega) ?_ | refine jE rfl ?_ | refine jF (by omega) ?_ | (refine jG ?_; first | with_reducible (first | refine jH ?_ | refine jI ?_ | refine jJ ?_ | refine jK ?_ | refine jL ?_) | refine jM (by omega) ?_ | refine jN (by omega) ?_ | with_reducible refine jM rfl ?_ | refine jM (by assumption) ?_ | refine jN (by assumption) ?_ | refine jM (by decide) ?_ | refine jN (by decide) ?_) | refine jF (ptr_ok tblOk rfl rfl) ?_ | refine jO (fun _ => by kernel_rfl) ?_ | refine jF (by decide) ?_ | refine hS.ld rfl ?_ | refine hS.ldn rfl ?_ | (refine hS.st rfl rfl ?_; intro _ hS))
      exact ⟨k + 1, ⟨rfl, rfl, rfl, rfl, trivial⟩, ⟨by omega, L4, hB4, hS.sub (List.sublist_cons_self _ _)⟩, by omega⟩
  · have hke : k = ps.length := by omega
    subst hke
    rw [List.take_length] at hB hpl
    repeat (first | refine SemW.run tblOk ?_ | refine jA (by omega) ?_ | refine jB (by omega) ?_ | refine jC (by omega) ?_ | refine jD (by omega) ?_ | refine jE rfl ?_ | refine jF (by omega) ?_ | (refine jG ?_; first | with_reducible (first | refine jH ?_ | refine jI ?_ | refine jJ ?_ | refine jK ?_ | refine jL ?_) | refine jM (by omega) ?_ | refine jN (by omega) ?_ | with_reducible refine jM rfl ?_ | refine jM (by assumption) ?_ | refine jN (by assumption) ?_ | refine jM (by decide) ?_ | refine jN (by decide) ?_) | refine jF (ptr_ok tblOk rfl rfl) ?_ | refine jO (fun _ => by kernel_rfl) ?_ | refine jF (by decide) ?_)
    refine Cl.mono (String_spec hB (hS.part (L := L1)) (by omega)) ?_
    rintro _ w3 ⟨rfl, hS'⟩
    have hS := hS.call (L := L1) hS'
    repeat (first | refine SemW.run tblOk ?_ | refine jA (by omega) ?_ | refine jB (by omega) ?_ | refine jC (by omega) ?_ | refine jD (by omega) ?_ | refine jE rfl ?_ | refine jF (by omega) ?_ | (refine jG ?_; first | with_reducible (first | refine jH ?_ | refine jI ?_ | refine jJ ?_ | refine jK ?_ | refine jL ?_) | refine jM (by omega) ?_ | refine jN (by omega) ?_ | with_reducible refine jM rfl ?_ | refine jM (by assumption) ?_ | refine jN (by assumption) ?_ | refine jM (by decide) ?_ | refine jN (by decide) ?_) | refine jF (ptr_ok tblOk rfl rfl) ?_ | refine jO (fun _ => by kernel_rfl) ?_ | refine jF (by decide) ?_)
    exact ⟨rfl, hS.nil⟩
set_option maxHeartbeats 1000000 in
theorem OText_spec {w : World} {a : Option Addr} {cap : Nat} {ss : List Bytes} (ha : Arr w [] a (ss.map Str)) (hl : ss.length ≤ 1024) :
    Cl Tryz.prog f_order_Text [.slice a ss.length cap] w fun v w' => ∃ a' c' L, v = .slice a' ss.length c' ∧ Vec T_api_Part 3 a' ss.length c' ((ss.map PartM.text).flatMap partC) L ∧ St w [] L w' := by
  have hS := St.start w
  refine en_order_Text rfl ?_
  repeat (first | refine SemW.run tblOk ?_ | refine jA (by omega) ?_ | refine jB (by omega) ?_ | refine jC (by omega) ?_ | refine jD (by omega) ?_ | refine jE rfl ?_ | refine jF (by omega) ?_ | (refine jG ?_; first | with_reducible (first | refine jH ?_ | refine jI ?_ | refine jJ ?_ | refine jK ?_ | refine jL ?_) | refine jM (by omega) ?_ | refine jN (by omega) ?_ | with_reducible refine jM rfl ?_ | refine jM (by assumption) ?_ | refine jN (by assumption) ?_ | refine jM (by decide) ?_ | refine jN (by decide) ?_) | refine jF (ptr_ok tblOk rfl rfl) ?_ | refine jO (fun _ => by kernel_rfl) ?_ | refine jF (by decide) ?_)
  refine St.mk0 (sz := 3) tblOk rfl rfl rfl rfl hS ss.length (by omega) (by show _ * 32 ≤ _; omega) (by omega) ?_
  intro a0 L0 w1 hv hS
  rw [List.append_nil] at hS
  repeat (first | refine SemW.run tblOk ?_ | refine jA (by omega) ?_ | refine jB (by omega) ?_ | refine jC (by omega) ?_ | refine jD (by omega) ?_ | refine jE rfl ?_ | refine jF (by omega) ?_ | (refine jG ?_; first | with_reducible (first | refine jH ?_ | refine jI ?_ | refine jJ ?_ | refine jK ?_ | refine jL ?_) | refine jM (by omega) ?_ | refine jN (by omega) ?_ | with_reducible refine jM rfl ?_ | refine jM (by assumption) ?_ | refine jN (by assumption) ?_ | refine jM (by decide) ?_ | refine jN (by decide) ?_) | refine jF (ptr_ok tblOk rfl rfl) ?_ | refine jO (fun _ => by kernel_rfl) ?_ | refine jF (by decide) ?_)
  refine SemW.loop (fun x : Nat × Option Addr × Nat => [(3, .slice x.2.1 x.1 x.2.2), (9, .slice a ss.length cap), (10, .int .i64 ss.length), (11, .int .i64 x.1)])
    (fun x w' => x.1 ≤ ss.length ∧ ∃ L, Vec T_api_Part 3 x.2.1 x.1 x.2.2 (((ss.take x.1).map PartM.text).flatMap partC) L ∧ St w [] L w') (fun x => ss.length - x.1) (0, a0, ss.length)
    ⟨rfl, rfl, rfl, rfl, trivial⟩ ⟨Nat.zero_le _, L0, hv, hS⟩ ?_
  rintro ⟨k, a2, c2⟩ w2 ⟨hk, L2, hv, hS⟩
  simp only at hk hv hS ⊢
  by_cases hkl : k < ss.length
  · obtain ⟨b', off', rfl, -, hck⟩ := ha.get (j := k) (by simp; omega)
    simp only [List.getElem_map] at hck
    have hsucc : ((ss.take (k + 1)).map PartM.text).flatMap partC = ((ss.take k).map PartM.text).flatMap partC ++ partC (.text ss[k]) := by
      rw [List.take_succ_eq_append_getElem hkl, List.map_append, List.flatMap_append]; simp
    repeat (first | refine SemW.run tblOk ?_ | refine jA (by omega) ?_ | refine jB (by omega) ?_ | refine jC (by omega) ?_ | refine jD (by omega) ?_ | refine jE rfl ?_ | refine jF (by omega) ?_ | (refine jG ?_; first | with_reducible (first | refine jH ?_ | refine jI ?_ | refine jJ ?_ | refine jK ?_ | refine jL ?_) | refine jM (by omega) ?_ | refine jN (by omega) ?_ | with_reducible refine jM rfl ?_ | refine jM (by assumption) ?_ | refine jN (by assumption) ?_ | refine jM (by decide) ?_ | refine jN (by decide) ?_) | refine jF (ptr_ok tblOk rfl rfl) ?_ | refine jO (fun _ => by kernel_rfl) ?_ | refine jF (by decide) ?_)
    refine hS.ldOld (by simp) (by simpa using hck) ?_
    repeat (first | refine SemW.run tblOk ?_ | refine jA (by omega) ?_ | refine jB (by omega) ?_ | refine jC (by omega) ?_ | refine jD (by omega) ?_ | refine jE rfl ?_ | refine jF (by omega) ?_ | (refine jG ?_; first | with_reducible (first | refine jH ?_ | refine jI ?_ | refine jJ ?_ | refine jK ?_ | refine jL ?_) | refine jM (by omega) ?_ | refine jN (by omega) ?_ | with_reducible refine jM rfl ?_ | refine jM (by assumption) ?_ | refine jN (by assumption) ?_ | refine jM (by decide) ?_ | refine jN (by decide) ?_) | refine jF (ptr_ok tblOk rfl rfl) ?_ | refine jO (fun _ => by kernel_rfl) ?_ | refine jF (by decide) ?_)
    refine hS.al ?_
    intro r w3 _ hS
    repeat (first | refine SemW.run tblOk ?_ | refine jA (by omega) ?_ | refine jB (by omega) ?_ | refine jC (by omega) ?_ | refine jD (by omega) ?_ | refine jE rfl ?_ | refine jF (by omega) ?_ | (refine jG ?_; first | with_reducible (first | refine jH ?_ | refine jI ?_ | refine jJ ?_ | refine jK ?_ | refine jL ?_) | refine jM (by omega) ?_ | refine jN (by omega) ?_ | with_reducible refine jM rfl ?_ | refine jM (by assumption) ?_ | refine jN (by assumption) ?_ | refine jM (by decide) ?_ | refine jN (by decide) ?_) | refine jF (ptr_ok tblOk rfl rfl) ?_ | refine jO (fun _ => by kernel_rfl) ?_ | refine jF (by decide) ?_)
    refine St.app (sz := 3) (m := 1) tblOk rfl rfl rfl rfl hS hv (news := partC (.text ss[k])) rfl (by have := hS.arr (b := r) (T' := []) (by simp); exact this) rfl (by show (_ + _) * 32 ≤ _; omega) (by omega) ?_
    intro a' c' L' w4 hv' hS
    rw [← hsucc] at hv'
    have hS := hS.sub (H' := L') (List.sublist_cons_self _ _)
    repeat (first | refine SemW.run tblOk ?_ | refine jA (by omega) ?_ | refine jB (by omega) ?_ | refine jC (by omega) ?_ | refine jD (by omega) ?_ | refine jE rfl ?_ | refine jF (by omega) ?_ | (refine jG ?_; first | with_reducible (first | refine jH ?_ | refine jI ?_ | refine jJ ?_ | refine jK ?_ | refine jL ?_) | refine jM (by omega) ?_ | refine jN (by omega) ?_ | with_reducible refine jM rfl ?_ | refine jM (by assumption) ?_ | refine jN (by assumption) ?_ | refine jM (by decide) ?_ | refine jN (by decide) ?_) | refine jF (ptr_ok tblOk rfl rfl) ?_ | refine jO (fun _ => by kernel_rfl) ?_ | refine jF (by decide) ?_)
    exact ⟨(k + 1, a', c'), ⟨rfl, rfl, rfl, rfl, trivial⟩, ⟨by simp only; omega, L', hv', hS⟩, by simp only; omega⟩
  · have hke : k = ss.length := by omega
    subst hke
    rw [List.take_length] at hv
    repeat (first | refine SemW.run tblOk ?_ | refine jA (by omega) ?_ | refine jB (by omega) ?_ | refine jC (by omega) ?_ | refine jD (by omega) ?_ | refine jE rfl ?_ | refine jF (by omega) ?_ | (refine jG ?_; first | with_reducible (first | refine jH ?_ | refine jI ?_ | refine jJ ?_ | refine jK ?_ | refine jL ?_) | refine jM (by omega) ?_ | refine jN (by omega) ?_ | with_reducible refine jM rfl ?_ | refine jM (by assumption) ?_ | refine jN (by assumption) ?_ | refine jM (by decide) ?_ | refine jN (by decide) ?_) | refine jF (ptr_ok tblOk rfl rfl) ?_ | refine jO (fun _ => by kernel_rfl) ?_ | refine jF (by decide) ?_)
    exact ⟨a2, c2, L2, rfl, hv, hS⟩
set_option maxHeartbeats 1000000 in
theorem OInt_spec {w : World} {a : Option Addr} {cap : Nat} {ss : List Int} (ha : Arr w [] a (ss.map intV)) (hl : ss.length ≤ 1024) :
    Cl Tryz.prog f_order_Int [.slice a ss.length cap] w fun v w' => ∃ a' c' L, v = .slice a' ss.length c' ∧ Vec T_api_Part 3 a' ss.length c' ((ss.map PartM.num).flatMap partC) L ∧ St w [] L w' := by
  have hS := St.start w
  refine en_order_Int rfl ?_
  repeat (first | refine SemW.run tblOk ?_ | refine jA (by omega) ?_ | refine jB (by omega) ?_ | refine jC (by omega) ?_ | refine jD (by omega) ?_ | refine jE rfl ?_ | refine jF (by omega) ?_ | (refine jG ?_; first | with_reducible (first | refine jH ?_ | refine jI ?_ | refine jJ ?_ | refine jK ?_ | refine jL ?_) | refine jM (by omega) ?_ | refine jN (by omega) ?_ | with_reducible refine jM rfl ?_ | refine jM (by assumption) ?_ | refine jN (by assumption) ?_ | refine jM (by decide) ?_ | refine jN (by decide) ?_) | refine jF (ptr_ok tblOk rfl rfl) ?_ | refine jO (fun _ => by kernel_rfl) ?_ | refine jF (by decide) ?_)
  refine St.mk0 (sz := 3) tblOk rfl rfl rfl rfl hS ss.length (by omega) (by show _ * 32 ≤ _; omega) (by omega) ?_
  intro a0 L0 w1 hv hS
  rw [List.append_nil] at hS
  repeat (first | refine SemW.run tblOk ?_ | refine jA (by omega) ?_ | refine jB (by omega) ?_ | refine jC (by omega) ?_ | refine jD (by omega) ?_ | refine jE rfl ?_ | refine jF (by omega) ?_ | (refine jG ?_; first | with_reducible (first | refine jH ?_ | refine jI ?_ | refine jJ ?_ | refine jK ?_ | refine jL ?_) | refine jM (by omega) ?_ | refine jN (by omega) ?_ | with_reducible refine jM rfl ?_ | refine jM (by assumption) ?_ | refine jN (by assumption) ?_ | refine jM (by decide) ?_ | refine jN (by decide) ?_) | refine jF (ptr_ok tblOk rfl rfl) ?_ | refine jO (fun _ => by kernel_rfl) ?_ | refine jF (by decide) ?_)
  refine SemW.loop (fun x : Nat × Option Addr × Nat => [(3, .slice x.2.1 x.1 x.2.2), (9, .slice a ss.length cap), (10, .int .i64 ss.length), (11, .int .i64 x.1)])
    (fun x w' => x.1 ≤ ss.length ∧ ∃ L, Vec T_api_Part 3 x.2.1 x.1 x.2.2 (((ss.take x.1).map PartM.num).flatMap partC) L ∧ St w [] L w') (fun x => ss.length - x.1) (0, a0, ss.length)
    ⟨rfl, rfl, rfl, rfl, trivial⟩ ⟨Nat.zero_le _, L0, hv, hS⟩ ?_
  rintro ⟨k, a2, c2⟩ w2 ⟨hk, L2, hv, hS⟩
  simp only at hk hv hS ⊢
  by_cases hkl : k < ss.length
  · obtain ⟨b', off', rfl, -, hck⟩ := ha.get (j := k) (by simp; omega)
    simp only [List.getElem_map] at hck
    unfold intV at hck
    have hsucc : ((ss.take (k + 1)).map PartM.num).flatMap partC = ((ss.take k).map PartM.num).flatMap partC ++ partC (.num ss[k]) := by
      rw [List.take_succ_eq_append_getElem hkl, List.map_append, List.flatMap_append]; simp
    repeat (first | refine SemW.run tblOk ?_ | refine jA (by omega) ?_ | refine jB (by omega) ?_ | refine jC (by omega) ?_ | refine jD (by omega) ?_ | refine jE rfl ?_ | refine jF (by omega) ?_ | (refine jG ?_; first | with_reducible (first | refine jH ?_ | refine jI ?_ | refine jJ ?_ | refine jK ?_ | refine jL ?_) | refine jM (by omega) ?_ | refine jN (by omega) ?_ | with_reducible refine jM rfl ?_ | refine jM (by assumption) ?_ | refine jN (by assumption) ?_ | refine jM (by decide) ?_ | refine jN (by decide) ?_) | refine jF (ptr_ok tblOk rfl rfl) ?_ | refine jO (fun _ => by kernel_rfl) ?_ | refine jF (by decide) ?_)
    refine hS.ldOld (by simp) (by simpa using hck) ?_
    repeat (first | refine SemW.run tblOk ?_ | refine jA (by omega) ?_ | refine jB (by omega) ?_ | refine jC (by omega) ?_ | refine jD (by omega) ?_ | refine jE rfl ?_ | refine jF (by omega) ?_ | (refine jG ?_; first | with_reducible (first | refine jH ?_ | refine jI ?_ | refine jJ ?_ | refine jK ?_ | refine jL ?_) | refine jM (by omega) ?_ | refine jN (by omega) ?_ | with_reducible refine jM rfl ?_ | refine jM (by assumption) ?_ | refine jN (by assumption) ?_ | refine jM (by decide) ?_ | refine jN (by decide) ?_) | refine jF (ptr_ok tblOk rfl rfl) ?_ | refine jO (fun _ => by kernel_rfl) ?_ | refine jF (by decide) ?_)
    refine hS.al ?_
    intro r w3 _ hS
    repeat (first | refine SemW.run tblOk ?_ | refine jA (by omega) ?_ | refine jB (by omega) ?_ | refine jC (by omega) ?_ | refine jD (by omega) ?_ | refine jE rfl ?_ | refine jF (by omega) ?_ | (refine jG ?_; first | with_reducible (first | refine jH ?_ | refine jI ?_ | refine jJ ?_ | refine jK ?_ | refine jL ?_) | refine jM (by omega) ?_ | refine jN (by omega) ?_ | with_reducible refine jM rfl ?_ | refine jM (by assumption) ?_ | refine jN (by assumption) ?_ | refine jM (by decide) ?_ | refine jN (by decide) ?_) | refine jF (ptr_ok tblOk rfl rfl) ?_ | refine jO (fun _ => by kernel_rfl) ?_ | refine jF (by decide) ?_)
    refine St.app (sz := 3) (m := 1) tblOk rfl rfl rfl rfl hS hv (news := partC (.num ss[k])) rfl (by have := hS.arr (b := r) (T' := []) (by simp); exact this) rfl (by show (_ + _) * 32 ≤ _; omega) (by omega) ?_
    intro a' c' L' w4 hv' hS
    rw [← hsucc] at hv'
    have hS := hS.sub (H' := L') (List.sublist_cons_self _ _)
    repeat (first | refine SemW.run tblOk ?_ | refine jA (by omega) ?_ | refine jB (by omega) ?_ | refine jC (by omega) ?_ | refine jD (by omega) ?_ | refine jE rfl ?_ | refine jF (by omega) ?_ | (refine jG ?_; first | with_reducible (first | refine jH ?_ | refine jI ?_ | refine jJ ?_ | refine jK ?_ | refine jL ?_) | refine jM (by omega) ?_ | refine jN (by omega) ?_ | with_reducible refine jM rfl ?_ | refine jM (by assumption) ?_ | refine jN (by assumption) ?_ | refine jM (by decide) ?_ | refine jN (by decide) ?_) | refine jF (ptr_ok tblOk rfl rfl) ?_ | refine jO (fun _ => by kernel_rfl) ?_ | refine jF (by decide) ?_)
    exact ⟨(k + 1, a', c'), ⟨rfl, rfl, rfl, rfl, trivial⟩, ⟨by simp only; omega, L', hv', hS⟩, by simp only; omega⟩
  · have hke : k = ss.length := by omega
    subst hke
    rw [List.take_length] at hv
    repeat (first | refine SemW.run tblOk ?_ | refine jA (by omega) ?_ | refine jB (by omega) ?_ | refine jC (by omega) ?_ | refine jD (by omega) ?_ | refine jE rfl ?_ | refine jF (by omega) ?_ | (refine jG ?_; first | with_reducible (first | refine jH ?_ | refine jI ?_ | refine jJ ?_ | refine jK ?_ | refine jL ?_) | refine jM (by omega) ?_ | refine jN (by omega) ?_ | with_reducible refine jM rfl ?_ | refine jM (by assumption) ?_ | refine jN (by assumption) ?_ | refine jM (by decide) ?_ | refine jN (by decide) ?_) | refine jF (ptr_ok tblOk rfl rfl) ?_ | refine jO (fun _ => by kernel_rfl) ?_ | refine jF (by decide) ?_)
    exact ⟨a2, c2, L2, rfl, hv, hS⟩
theorem key_eq (c : UInt8) (n : Int) : partsB [.text [c], .num n] = keyB c n := by simp [partsB, partB, keyB]
set_option maxHeartbeats 1000000 in
theorem rkey_spec {w : World} (c : UInt8) (hc : Lib.countByte [c] 0 = 0) (n : Int) (hn : -9223372036854775808 ≤ n ∧ n ≤ 9223372036854775807) : Cl Tryz.prog f_rows_key [Str [c], .int .i64 n] w fun v w' => v = Str (keyB c n) ∧ St w [] [] w' := by
  have hS := St.start w
  refine en_rows_key rfl ?_
  repeat (first | refine SemW.run tblOk ?_ | refine jA (by omega) ?_ | refine jB (by omega) ?_ | refine jC (by omega) ?_ | refine jD (by omega) ?_ | refine jE rfl ?_ | refine jF (by omega) ?_ | (refine jG ?_; first | with_reducible (first | refine jH ?_ | refine jI ?_ | refine jJ ?_ | refine jK ?_ | refine jL ?_) | refine jM (by omega) ?_ | refine jN (by omega) ?_ | with_reducible refine jM rfl ?_ | refine jM (by assumption) ?_ | refine jN (by assumption) ?_ | refine jM (by decide) ?_ | refine jN (by decide) ?_) | refine jF (ptr_ok tblOk rfl rfl) ?_ | refine jO (fun _ => by kernel_rfl) ?_ | refine jF (by decide) ?_)
  refine hS.al ?_
  intro r w1 _ hS
  repeat (first | refine SemW.run tblOk ?_ | refine jA (by omega) ?_ | refine jB (by omega) ?_ | refine jC (by omega) ?_ | refine jD (by omega) ?_ | refine jE rfl ?_ | refine jF (by omega) ?_ | (refine jG ?_; first | with_reducible (first | refine jH ?_ | refine jI ?_ | refine jJ ?_ | refine jK ?_ | refine jL ?_) | refine jM (by omega) ?_ | refine jN (by omega) ?_ | with_reducible refine jM rfl ?_ | refine jM (by assumption) ?_ | refine jN (by assumption) ?_ | refine jM (by decide) ?_ | refine jN (by decide) ?_) | refine jF (ptr_ok tblOk rfl rfl) ?_ | refine jO (fun _ => by kernel_rfl) ?_ | refine jF (by decide) ?_)
  refine Cl.mono (OText_spec (ss := [[c]]) (hS.arr (b := r) (by simp)) (by simp)) ?_
  rintro _ w2 ⟨a1, c1, L1, rfl, hv1, hS'⟩
  have hS := (hS.callNew hS').sub (H' := L1) (List.sublist_append_left _ _)
  repeat (first | refine SemW.run tblOk ?_ | refine jA (by omega) ?_ | refine jB (by omega) ?_ | refine jC (by omega) ?_ | refine jD (by omega) ?_ | refine jE rfl ?_ | refine jF (by omega) ?_ | (refine jG ?_; first | with_reducible (first | refine jH ?_ | refine jI ?_ | refine jJ ?_ | refine jK ?_ | refine jL ?_) | refine jM (by omega) ?_ | refine jN (by omega) ?_ | with_reducible refine jM rfl ?_ | refine jM (by assumption) ?_ | refine jN (by assumption) ?_ | refine jM (by decide) ?_ | refine jN (by decide) ?_) | refine jF (ptr_ok tblOk rfl rfl) ?_ | refine jO (fun _ => by kernel_rfl) ?_ | refine jF (by decide) ?_)
  refine hS.al ?_
  intro r2 w3 _ hS
  repeat (first | refine SemW.run tblOk ?_ | refine jA (by omega) ?_ | refine jB (by omega) ?_ | refine jC (by omega) ?_ | refine jD (by omega) ?_ | refine jE rfl ?_ | refine jF (by omega) ?_ | (refine jG ?_; first | with_reducible (first | refine jH ?_ | refine jI ?_ | refine jJ ?_ | refine jK ?_ | refine jL ?_) | refine jM (by omega) ?_ | refine jN (by omega) ?_ | with_reducible refine jM rfl ?_ | refine jM (by assumption) ?_ | refine jN (by assumption) ?_ | refine jM (by decide) ?_ | refine jN (by decide) ?_) | refine jF (ptr_ok tblOk rfl rfl) ?_ | refine jO (fun _ => by kernel_rfl) ?_ | refine jF (by decide) ?_)
  refine Cl.mono (OInt_spec (ss := [n]) (hS.arr (b := r2) (by simp)) (by simp)) ?_
  rintro _ w4 ⟨a2, c2, L2, rfl, hv2, hS'⟩
  have hS := (hS.callNew hS').sub (H' := L2 ++ L1) (List.Sublist.append (List.Sublist.refl _) (List.sublist_cons_self _ _))
  repeat (first | refine SemW.run tblOk ?_ | refine jA (by omega) ?_ | refine jB (by omega) ?_ | refine jC (by omega) ?_ | refine jD (by omega) ?_ | refine jE rfl ?_ | refine jF (by omega) ?_ | (refine jG ?_; first | with_reducible (first | refine jH ?_ | refine jI ?_ | refine jJ ?_ | refine jK ?_ | refine jL ?_) | refine jM (by omega) ?_ | refine jN (by omega) ?_ | with_reducible refine jM rfl ?_ | refine jM (by assumption) ?_ | refine jN (by assumption) ?_ | refine jM (by decide) ?_ | refine jN (by decide) ?_) | refine jF (ptr_ok tblOk rfl rfl) ?_ | refine jO (fun _ => by kernel_rfl) ?_ | refine jF (by decide) ?_)
  refine St.app (sz := 3) (m := 1) tblOk rfl rfl rfl rfl hS hv1 (news := partC (.num n)) rfl (hv2.arr hS (by simp)) rfl (by show (_ + _) * 32 ≤ _; simp) (by simp) ?_
  intro a3 c3 L3 w5 hv3 hS
  repeat (first | refine SemW.run tblOk ?_ | refine jA (by omega) ?_ | refine jB (by omega) ?_ | refine jC (by omega) ?_ | refine jD (by omega) ?_ | refine jE rfl ?_ | refine jF (by omega) ?_ | (refine jG ?_; first | with_reducible (first | refine jH ?_ | refine jI ?_ | refine jJ ?_ | refine jK ?_ | refine jL ?_) | refine jM (by omega) ?_ | refine jN (by omega) ?_ | with_reducible refine jM rfl ?_ | refine jM (by assumption) ?_ | refine jN (by assumption) ?_ | refine jM (by decide) ?_ | refine jN (by decide) ?_) | refine jF (ptr_ok tblOk rfl rfl) ?_ | refine jO (fun _ => by kernel_rfl) ?_ | refine jF (by decide) ?_)
  refine Cl.mono (Key_spec (ps := [.text [c], .num n]) (hv3.arr hS (by simp)) (by
    intro p hp
    simp only [List.mem_cons, List.mem_nil_iff, or_false] at hp
    rcases hp with rfl | rfl
    · exact ⟨hc, by simp⟩
    · exact hn) (by simp)) ?_
  rintro _ w6 ⟨rfl, hS'⟩
  have hS := hS.call0 hS'
  rw [key_eq]
  repeat (first | refine SemW.run tblOk ?_ | refine jA (by omega) ?_ | refine jB (by omega) ?_ | refine jC (by omega) ?_ | refine jD (by omega) ?_ | refine jE rfl ?_ | refine jF (by omega) ?_ | (refine jG ?_; first | with_reducible (first | refine jH ?_ | refine jI ?_ | refine jJ ?_ | refine jK ?_ | refine jL ?_) | refine jM (by omega) ?_ | refine jN (by omega) ?_ | with_reducible refine jM rfl ?_ | refine jM (by assumption) ?_ | refine jN (by assumption) ?_ | refine jM (by decide) ?_ | refine jN (by decide) ?_) | refine jF (ptr_ok tblOk rfl rfl) ?_ | refine jO (fun _ => by kernel_rfl) ?_ | refine jF (by decide) ?_)
  exact ⟨rfl, hS.nil⟩
end Go.Proofs.YthpmmfapolcaiaaGreatDoor

/- Plain: keys split into their parts. -/
namespace Go.Proofs.YthpmmfapolcaiaaGreatDoor
open Go Go.Eng Go.Proofs
/-- A text in a key: each zero is followed by 255. -/
def escB : Bytes → Bytes
  | [] => []
  | c :: r => if c = 0 then 0 :: 255 :: escB r else c :: escB r
def partG : PartM → Bytes
  | .num n => 1 :: be8 (unum n)
  | .text s => 2 :: (escB s ++ [0, 0])
def partsG (ps : List PartM) : Bytes := (ps.map partG).flatten
def PartM.okN : PartM → Prop
  | .num n => -9223372036854775808 ≤ n ∧ n ≤ 9223372036854775807
  | .text _ => True
/-- A text's end is found. -/
def txtM : Bytes → Option (Bytes × Bytes)
  | [] => none
  | [_] => none
  | c :: d :: r => if c ≠ 0 then (txtM (d :: r)).map fun z => (c :: z.1, z.2) else if d = 255 then (txtM r).map fun z => (0 :: z.1, z.2) else if d = 0 then some ([], r) else none
theorem txtM_esc : ∀ (s r : Bytes), txtM (escB s ++ 0 :: 0 :: r) = some (s, r)
  | [], r => rfl
  | c :: s, r => by
    have ih := txtM_esc s r
    unfold escB
    by_cases hc : c = 0
    · subst hc
      rw [if_pos rfl]
      show txtM (0 :: 255 :: (escB s ++ 0 :: 0 :: r)) = _
      unfold txtM
      rw [if_neg (by simp), if_pos rfl, ih]; rfl
    · rw [if_neg hc, List.cons_append]
      obtain ⟨d, r', he⟩ : ∃ d r', escB s ++ 0 :: 0 :: r = d :: r' := by
        cases h : escB s ++ 0 :: 0 :: r with
        | nil => simp at h
        | cons d r' => exact ⟨d, r', rfl⟩
      rw [he] at ih ⊢
      unfold txtM
      rw [if_pos hc, ih]; rfl
theorem txtM_some : ∀ (n : Nat) (t : Bytes), t.length ≤ n → ∀ s r, txtM t = some (s, r) → t = escB s ++ 0 :: 0 :: r
  | n, [], _, s, r, h => by cases h
  | n, [x], _, s, r, h => by cases h
  | 0, c :: d :: t, hn, s, r, h => by simp at hn
  | n + 1, c :: d :: t, hn, s, r, h => by
    unfold txtM at h
    by_cases hc : c = 0
    · rw [if_neg (by simpa using hc)] at h
      by_cases hd : d = 255
      · rw [if_pos hd] at h
        cases h2 : txtM t with
        | none => rw [h2] at h; cases h
        | some z =>
          rw [h2] at h
          simp only [Option.map_some, Option.some.injEq, Prod.mk.injEq] at h
          obtain ⟨rfl, rfl⟩ := h
          have := txtM_some n t (by simp only [List.length_cons] at hn; omega) z.1 z.2 h2
          rw [hc, hd, this]
          rfl
      · rw [if_neg hd] at h
        by_cases hd0 : d = 0
        · rw [if_pos hd0] at h
          simp only [Option.some.injEq, Prod.mk.injEq] at h
          obtain ⟨rfl, rfl⟩ := h
          rw [hc, hd0]; rfl
        · rw [if_neg hd0] at h; cases h
    · rw [if_pos hc] at h
      cases h2 : txtM (d :: t) with
      | none => rw [h2] at h; cases h
      | some z =>
        rw [h2] at h
        simp only [Option.map_some, Option.some.injEq, Prod.mk.injEq] at h
        obtain ⟨rfl, rfl⟩ := h
        have := txtM_some n (d :: t) (by simp only [List.length_cons] at hn ⊢; omega) z.1 z.2 h2
        rw [this]
        have e : escB (c :: z.1) = c :: escB z.1 := by rw [escB, if_neg hc]
        rw [e]; rfl
theorem txtM_iff {t s r : Bytes} : txtM t = some (s, r) ↔ t = escB s ++ 0 :: 0 :: r :=
  ⟨txtM_some t.length t (Nat.le_refl _) s r, fun h => by rw [h]; exact txtM_esc s r⟩
/-- The number of bytes, the greatest first. -/
def beV (l : Bytes) : Nat := l.foldl (fun u x => 256 * u + x.toNat) 0
theorem beV_snoc (l : Bytes) (x : UInt8) : beV (l ++ [x]) = 256 * beV l + x.toNat := by unfold beV; rw [List.foldl_append]; rfl
theorem list8 {l : Bytes} (h : l.length = 8) : ∃ a b c d e f g i, l = [a, b, c, d, e, f, g, i] := by
  match l, h with
  | [a, b, c, d, e, f, g, i], _ => exact ⟨a, b, c, d, e, f, g, i, rfl⟩
theorem beV8 (a b c d e f g i : UInt8) : beV [a, b, c, d, e, f, g, i] = a.toNat * 72057594037927936 + b.toNat * 281474976710656 + c.toNat * 1099511627776 + d.toNat * 4294967296 + e.toNat * 16777216 + f.toNat * 65536 + g.toNat * 256 + i.toNat := by
  unfold beV
  simp only [List.foldl]
  omega
theorem u8of {n : Nat} {x : UInt8} (h : n % 256 = x.toNat) : UInt8.ofNat n = x := by
  apply UInt8.toNat_inj.1
  simp [h]
theorem be8_beV {l : Bytes} (h : l.length = 8) : be8 (beV l) = l ∧ beV l < 18446744073709551616 := by
  obtain ⟨a, b, c, d, e, f, g, i, rfl⟩ := list8 h
  have ha := a.toNat_lt
  have hb := b.toNat_lt
  have hc := c.toNat_lt
  have hd := d.toNat_lt
  have he := e.toNat_lt
  have hf := f.toNat_lt
  have hg := g.toNat_lt
  have hi := i.toNat_lt
  rw [beV8]
  refine ⟨?_, by omega⟩
  unfold be8
  simp only [List.cons.injEq, and_true]
  refine ⟨u8of ?_, u8of ?_, u8of ?_, u8of ?_, u8of ?_, u8of ?_, u8of ?_, u8of ?_⟩ <;> omega
theorem be8_len (n : Nat) : (be8 n).length = 8 := rfl
theorem beV_be8 {n : Nat} (h : n < 18446744073709551616) : beV (be8 n) = n := by
  obtain ⟨h1, h2⟩ := be8_beV (l := be8 n) rfl
  generalize beV (be8 n) = m at h1 h2 ⊢
  rw [be8_eq, be8_eq] at h1
  exact beN_inj 8 _ _ h2 h h1
/-- The parts that a key has, if it is written so. -/
def Spl (k : Bytes) (ps : List PartM) : Prop := partsG ps = k ∧ ∀ p ∈ ps, p.okN
theorem partG_pos (p : PartM) : ∃ c r, partG p = c :: r := by
  cases p with
  | num n => exact ⟨_, _, rfl⟩
  | text s => exact ⟨_, _, rfl⟩
theorem spl_nil {ps : List PartM} : Spl [] ps ↔ ps = [] := by
  constructor
  · rintro ⟨h, -⟩
    cases ps with
    | nil => rfl
    | cons p ps =>
      obtain ⟨c, r, e⟩ := partG_pos p
      unfold partsG at h
      rw [List.map_cons, List.flatten_cons, e] at h
      cases h
  · rintro rfl; exact ⟨rfl, by nofun⟩
theorem spl_cons {k : Bytes} {p : PartM} {ps : List PartM} : Spl k (p :: ps) ↔ ∃ r, k = partG p ++ r ∧ p.okN ∧ Spl r ps := by
  constructor
  · rintro ⟨h, h2⟩
    exact ⟨partsG ps, by rw [← h]; rfl, h2 p List.mem_cons_self, rfl, fun q hq => h2 q (List.mem_cons_of_mem _ hq)⟩
  · rintro ⟨r, rfl, h1, h2, h3⟩
    refine ⟨by rw [← h2]; rfl, fun q hq => ?_⟩
    rcases List.mem_cons.1 hq with rfl | hq
    · exact h1
    · exact h3 q hq
theorem spl_ne {c : UInt8} {r : Bytes} {ps : List PartM} (h : Spl (c :: r) ps) : ∃ p qs z, ps = p :: qs ∧ c :: r = partG p ++ z ∧ p.okN ∧ Spl z qs := by
  cases ps with
  | nil => obtain ⟨h, -⟩ := h; cases h
  | cons p qs => obtain ⟨z, h1, h2, h3⟩ := spl_cons.1 h; exact ⟨p, qs, z, rfl, h1, h2, h3⟩
def unb (l : Bytes) : Int := (beV l : Int) - 9223372036854775808
theorem unum_unb {l : Bytes} (h : l.length = 8) : unum (unb l) = beV l ∧ (-9223372036854775808 ≤ unb l ∧ unb l ≤ 9223372036854775807) := by
  obtain ⟨-, h2⟩ := be8_beV h
  unfold unum unb
  omega
theorem spl_num {r : Bytes} (hr : 8 ≤ r.length) {ps : List PartM} : Spl (1 :: r) ps ↔ ∃ qs, ps = .num (unb (r.take 8)) :: qs ∧ Spl (r.drop 8) qs := by
  have hl : (r.take 8).length = 8 := by rw [List.length_take]; omega
  constructor
  · intro h
    obtain ⟨p, qs, z, rfl, h1, h2, h3⟩ := spl_ne h
    cases p with
    | text s => simp [partG] at h1
    | num n =>
      simp only [partG, List.cons_append, List.cons.injEq, true_and] at h1
      have e1 : r.take 8 = be8 (unum n) := by rw [h1]; exact List.take_left' (be8_len _)
      have e2 : r.drop 8 = z := by rw [h1]; exact List.drop_left' (be8_len _)
      have hn : -9223372036854775808 ≤ n ∧ n ≤ 9223372036854775807 := h2
      refine ⟨qs, ?_, by rw [e2]; exact h3⟩
      have e3 : beV (r.take 8) = unum n := by rw [e1]; exact beV_be8 (by unfold unum; omega)
      congr 2
      unfold unb
      rw [e3]
      unfold unum; omega
  · rintro ⟨qs, rfl, h⟩
    obtain ⟨h1, h2⟩ := unum_unb hl
    refine spl_cons.2 ⟨r.drop 8, ?_, h2, h⟩
    simp only [partG, List.cons_append]
    rw [h1, (be8_beV hl).1, List.take_append_drop]
theorem spl_num_no {r : Bytes} (hr : r.length < 8) (ps : List PartM) : ¬ Spl (1 :: r) ps := by
  intro h
  obtain ⟨p, qs, z, rfl, h1, h2, h3⟩ := spl_ne h
  cases p with
  | text s => simp [partG] at h1
  | num n =>
    simp only [partG, List.cons_append, List.cons.injEq, true_and] at h1
    have := congrArg List.length h1
    rw [List.length_append, be8_len] at this
    omega
theorem spl_text {r s z : Bytes} (hr : txtM r = some (s, z)) {ps : List PartM} : Spl (2 :: r) ps ↔ ∃ qs, ps = .text s :: qs ∧ Spl z qs := by
  constructor
  · intro h
    obtain ⟨p, qs, z', rfl, h1, h2, h3⟩ := spl_ne h
    cases p with
    | num n => simp [partG] at h1
    | text s' =>
      simp only [partG, List.cons_append, List.append_assoc, List.cons.injEq, true_and] at h1
      have := txtM_iff.2 (show r = escB s' ++ 0 :: 0 :: z' from h1)
      rw [hr] at this
      simp only [Option.some.injEq, Prod.mk.injEq] at this
      obtain ⟨rfl, rfl⟩ := this
      exact ⟨qs, rfl, h3⟩
  · rintro ⟨qs, rfl, h⟩
    refine spl_cons.2 ⟨z, ?_, trivial, h⟩
    rw [txtM_iff.1 hr]
    simp [partG]
theorem spl_text_no {r : Bytes} (hr : txtM r = none) (ps : List PartM) : ¬ Spl (2 :: r) ps := by
  intro h
  obtain ⟨p, qs, z', rfl, h1, h2, h3⟩ := spl_ne h
  cases p with
  | num n => simp [partG] at h1
  | text s' =>
    simp only [partG, List.cons_append, List.append_assoc, List.cons.injEq, true_and] at h1
    have := txtM_iff.2 (show r = escB s' ++ 0 :: 0 :: z' from h1)
    rw [hr] at this; cases this
theorem spl_other {c : UInt8} {r : Bytes} (h1 : ¬ c = 1) (h2 : ¬ c = 2) (ps : List PartM) : ¬ Spl (c :: r) ps := by
  intro h
  obtain ⟨p, qs, z', rfl, h3, -, -⟩ := spl_ne h
  cases p with
  | num n => simp only [partG, List.cons_append, List.cons.injEq] at h3; exact h1 h3.1
  | text s' => simp only [partG, List.cons_append, List.cons.injEq] at h3; exact h2 h3.1
theorem spl_inj : ∀ {ps qs : List PartM} {k : Bytes}, Spl k ps → Spl k qs → ps = qs
  | [], qs, k, h1, h2 => by
    obtain ⟨rfl, -⟩ := h1
    exact (spl_nil.1 h2).symm
  | .num n :: ps, qs, k, h1, h2 => by
    obtain ⟨r, rfl, h3, h4⟩ := spl_cons.1 h1
    have e : partG (.num n) ++ r = 1 :: (be8 (unum n) ++ r) := rfl
    have hl : 8 ≤ (be8 (unum n) ++ r).length := by rw [List.length_append, be8_len]; omega
    rw [e] at h1 h2
    obtain ⟨a, e1, h5⟩ := (spl_num hl).1 h1
    obtain ⟨b, e2, h6⟩ := (spl_num hl).1 h2
    rw [e1, e2]
    simp only [List.cons.injEq] at e1
    obtain ⟨-, rfl⟩ := e1
    rw [spl_inj h5 h6]
  | .text s :: ps, qs, k, h1, h2 => by
    obtain ⟨r, rfl, h3, h4⟩ := spl_cons.1 h1
    have e : partG (.text s) ++ r = 2 :: (escB s ++ 0 :: 0 :: r) := by simp [partG]
    rw [e] at h1 h2
    obtain ⟨a, e1, h5⟩ := (spl_text (txtM_esc s r)).1 h1
    obtain ⟨b, e2, h6⟩ := (spl_text (txtM_esc s r)).1 h2
    rw [e1, e2]
    simp only [List.cons.injEq] at e1
    obtain ⟨-, rfl⟩ := e1
    rw [spl_inj h5 h6]
theorem spl_keyB {c : UInt8} (hc : ¬ c = 0) {n : Int} (hn : -9223372036854775808 ≤ n ∧ n ≤ 9223372036854775807) : Spl (keyB c n) [.text [c], .num n] := by
  refine ⟨?_, ?_⟩
  · unfold keyB
    simp [partsG, partG, escB, hc]
  · intro p hp
    simp only [List.mem_cons, List.mem_nil_iff, or_false] at hp
    rcases hp with rfl | rfl
    · trivial
    · exact hn
theorem keyB_spl {c : UInt8} (hc : ¬ c = 0) {n : Int} {k : Bytes} (h : Spl k [.text [c], .num n]) : k = keyB c n ∧ (-9223372036854775808 ≤ n ∧ n ≤ 9223372036854775807) := by
  have hn : -9223372036854775808 ≤ n ∧ n ≤ 9223372036854775807 := h.2 (.num n) (by simp)
  exact ⟨by rw [← h.1, ← (spl_keyB hc hn).1], hn⟩
end Go.Proofs.YthpmmfapolcaiaaGreatDoor

/- Rows, passengers handed in, opened. -/
namespace Go.Proofs.YthpmmfapolcaiaaGreatDoor
open Go Go.Eng Go.Proofs
open Go.ChangeShapes Go.WideShapes Go.ChangeAt Go.RowKit

theorem opens_row : Opens Tryz.prog T_api_Row RRow (fun r => r.seats.length + 6) := by
  refine Opens.map (Opens.struct (sz := 5) Tryz.underlying120 (by kernel_rfl) (OpensFs.cons (s := 1) rfl (by kernel_rfl) (Opens.int Tryz.underlying3) (OpensFs.cons (s := 1) rfl (by kernel_rfl) (Opens.int Tryz.underlying3) (OpensFs.cons (s := 1) rfl (by kernel_rfl) (Opens.int Tryz.underlying3)
    (OpensFs.cons (s := 1) rfl (by kernel_rfl) (Opens.bool Tryz.underlying4) (OpensFs.cons (s := 1) rfl (by kernel_rfl) (Opens.str Tryz.underlying9) OpensFs.nil)))))) (fun x => ⟨x.1, x.2.1, x.2.2.1, x.2.2.2.1, x.2.2.2.2.1⟩) ?_ (fun x => by (try simp only); omega)
  intro W cs x h
  obtain ⟨e1, w1, h⟩ := pair_int h
  obtain ⟨e2, w2, h⟩ := pair_int h
  obtain ⟨e3, w3, h⟩ := pair_int h
  obtain ⟨e4, h⟩ := pair_bool h
  obtain ⟨e5, h⟩ := pair_str h
  have h : (((((cs.drop 1).drop 1).drop 1).drop 1).drop 1) = [] := h
  rw [h] at e5; rw [e5] at e4; rw [e4] at e3; rw [e3] at e2; rw [e2] at e1
  exact ⟨e1, wf_i64b w1, wf_i64b w2, wf_i64b w3⟩
theorem len4 {α : Type} {cs : List α} (h : cs.length = 4) : ∃ a b c d, cs = [a, b, c, d] := by
  match cs, h with
  | [a, b, c, d], _ => exact ⟨a, b, c, d, rfl⟩
def RInts4 : CellR (Int × Int × Int × Int) := fun _ cs x => cs = [.int .i64 x.1, .int .i64 x.2.1, .int .i64 x.2.2.1, .int .i64 x.2.2.2] ∧ i64b x.1 ∧ i64b x.2.1 ∧ i64b x.2.2.1 ∧ i64b x.2.2.2
theorem Opens.ints4 {P : Program} {t e : TypeId} (ht : P.underlying t = some (.array 4 e)) (he : P.underlying e = some (.int .i64)) (hce : P.cellsOf e = 1) (hct : P.cellsOf t = 4) : Opens P t RInts4 (fun _ => 4) := by
  refine ⟨fun {H enc W fuel cs x} h => ?_⟩
  obtain ⟨xs, n, -, rfl, hl, hxl, hx⟩ := DataW.trod_array ht h
  rw [hct] at hl
  rw [hce] at hx
  obtain ⟨a, b, c, d, rfl⟩ := len4 hl
  have g : ∀ i v, i < 4 → ([a, b, c, d] : List Value)[i]? = some v → ∃ z, v = .int .i64 z ∧ i64b z ∧ (xs[i]?).map (fun y => Rows.uptoBulk y.1) = some 1 := by
    intro i v hi hv
    have h1 := hx i hi
    have h2 : ((([a, b, c, d] : List Value).drop (i * 1)).take 1) = [v] := by
      rw [Nat.mul_one]
      match i, hi with
      | 0, _ => simpa using hv
      | 1, _ => simpa using hv
      | 2, _ => simpa using hv
      | 3, _ => simpa using hv
    rw [h2] at h1
    rw [List.getElem?_eq_getElem (show i < xs.length by omega)] at h1
    obtain ⟨z, h3, h4, h5⟩ := DataW.trod_int he h1
    refine ⟨z, by simpa using h3, wf_i64b h5, ?_⟩
    rw [List.getElem?_eq_getElem (show i < xs.length by omega), h4]; rfl
  obtain ⟨z0, rfl, w0, b0⟩ := g 0 a (by omega) rfl
  obtain ⟨z1, rfl, w1, b1⟩ := g 1 b (by omega) rfl
  obtain ⟨z2, rfl, w2, b2⟩ := g 2 c (by omega) rfl
  obtain ⟨z3, rfl, w3, b3⟩ := g 3 d (by omega) rfl
  refine ⟨(z0, z1, z2, z3), ⟨rfl, w0, w1, w2, w3⟩, ?_⟩
  obtain ⟨x0, x1, x2, x3, rfl⟩ := len4 hxl
  simp only [List.getElem?_cons_zero, List.getElem?_cons_succ, Option.map_some, Option.some.injEq] at b0 b1 b2 b3
  simp only [List.map_cons, List.map_nil, Rows.uptoBulk, Rows.uptoBulkAll]
  omega
theorem pair_ints4 {β : Type} {S : CellR β} {W : World} {cs : List Value} {x : (Int × Int × Int × Int) × β} (h : RPair 4 RInts4 S W cs x) : cs = .int .i64 x.1.1 :: .int .i64 x.1.2.1 :: .int .i64 x.1.2.2.1 :: .int .i64 x.1.2.2.2 :: cs.drop 4 ∧ (i64b x.1.1 ∧ i64b x.1.2.1 ∧ i64b x.1.2.2.1 ∧ i64b x.1.2.2.2) ∧ S W (cs.drop 4) x.2 := by
  refine ⟨?_, h.1.2, h.2⟩
  conv => lhs; rw [← List.take_append_drop 4 cs, h.1.1]
  rfl
theorem takeN {n : Nat} {cs l : List Value} (h : cs.take n = l) : cs = l ++ cs.drop n := by rw [← h, List.take_append_drop]
def RWho : CellR (Int × Bool × Bool) := fun _ cs x => cs = [.int .i64 x.1, .bool x.2.1, .bool x.2.2] ∧ i64b x.1
theorem opens_who : Opens Tryz.prog T_api_Who RWho (fun _ => 4) := by
  refine Opens.map (Opens.struct (sz := 3) Tryz.underlying26 (by kernel_rfl) (OpensFs.cons (s := 1) rfl (by kernel_rfl) (Opens.int Tryz.underlying3) (OpensFs.cons (s := 1) rfl (by kernel_rfl) (Opens.bool Tryz.underlying4) (OpensFs.cons (s := 1) rfl (by kernel_rfl) (Opens.bool Tryz.underlying4) OpensFs.nil)))) (fun x => (x.1, x.2.1, x.2.2.1)) ?_ (fun x => by (try simp only); omega)
  intro W cs x h
  obtain ⟨e1, w1, h⟩ := pair_int h
  obtain ⟨e2, h⟩ := pair_bool h
  obtain ⟨e3, h⟩ := pair_bool h
  have h : (((cs.drop 1).drop 1).drop 1) = [] := h
  rw [h] at e3; rw [e3] at e2; rw [e2] at e1
  exact ⟨e1, wf_i64b w1⟩
def RSeatC : CellR (Int × Nat) := fun _ cs x => cs = [.int .i64 x.1, .int .u8 x.2] ∧ i64b x.1 ∧ x.2 < 256
theorem opens_seatC : Opens Tryz.prog T_api_Seat RSeatC (fun _ => 3) := by
  refine Opens.map (Opens.struct (sz := 2) Tryz.underlying28 (by kernel_rfl) (OpensFs.cons (s := 1) rfl (by kernel_rfl) (Opens.int Tryz.underlying3) (OpensFs.cons (s := 1) rfl (by kernel_rfl) (Opens.int Tryz.underlying5) OpensFs.nil))) (fun x => (x.1, x.2.1.toNat)) ?_ (fun x => by (try simp only); omega)
  intro W cs x h
  obtain ⟨e1, w1, h⟩ := pair_int h
  obtain ⟨e2, w2, h⟩ := pair_int h
  have h : ((cs.drop 1).drop 1) = [] := h
  rw [h] at e2; rw [e2] at e1
  have hw := wf_u8b w2
  refine ⟨?_, wf_i64b w1, by simp only; omega⟩
  simp only
  rw [show ((x.2.1.toNat : Nat) : Int) = x.2.1 by omega]; exact e1
theorem opens_pax : Opens Tryz.prog T_api_Pax RPax (fun _ => 14) := by
  refine Opens.map (Opens.struct (sz := 13) Tryz.underlying30 (by kernel_rfl) (OpensFs.cons (s := 1) rfl (by kernel_rfl) (Opens.int Tryz.underlying3) (OpensFs.cons (s := 1) rfl (by kernel_rfl) (Opens.int Tryz.underlying3) (OpensFs.cons (s := 3) rfl (by kernel_rfl) opens_who
    (OpensFs.cons (s := 1) rfl (by kernel_rfl) (Opens.bool Tryz.underlying4) (OpensFs.cons (s := 1) rfl (by kernel_rfl) (Opens.bool Tryz.underlying4) (OpensFs.cons (s := 1) rfl (by kernel_rfl) (Opens.int Tryz.underlying3) (OpensFs.cons (s := 1) rfl (by kernel_rfl) (Opens.int Tryz.underlying3)
    (OpensFs.cons (s := 1) rfl (by kernel_rfl) (Opens.int Tryz.underlying3) (OpensFs.cons (s := 1) rfl (by kernel_rfl) (Opens.int Tryz.underlying3) (OpensFs.cons (s := 2) rfl (by kernel_rfl) opens_seatC OpensFs.nil)))))))))))
    (fun x => ⟨x.1, x.2.1, x.2.2.1.1, x.2.2.1.2.1, x.2.2.1.2.2, x.2.2.2.1, x.2.2.2.2.1, x.2.2.2.2.2.1, x.2.2.2.2.2.2.1, x.2.2.2.2.2.2.2.1, x.2.2.2.2.2.2.2.2.1, x.2.2.2.2.2.2.2.2.2.1.1, x.2.2.2.2.2.2.2.2.2.1.2⟩) ?_ (fun x => by (try simp only); omega)
  intro W cs x h
  obtain ⟨e1, w1, h⟩ := pair_int h
  obtain ⟨e2, w2, h⟩ := pair_int h
  obtain ⟨⟨e3, w3⟩, h⟩ := h
  have e3 := takeN e3
  obtain ⟨e4, h⟩ := pair_bool h
  obtain ⟨e5, h⟩ := pair_bool h
  obtain ⟨e6, w6, h⟩ := pair_int h
  obtain ⟨e7, w7, h⟩ := pair_int h
  obtain ⟨e8, w8, h⟩ := pair_int h
  obtain ⟨e9, w9, h⟩ := pair_int h
  obtain ⟨⟨e10, w10, w11⟩, h⟩ := h
  have e10 := takeN e10
  have h : (((((((((((cs.drop 1).drop 1).drop 3).drop 1).drop 1).drop 1).drop 1).drop 1).drop 1).drop 2)) = [] := h
  rw [h] at e10; rw [e10] at e9; rw [e9] at e8; rw [e8] at e7; rw [e7] at e6; rw [e6] at e5; rw [e5] at e4; rw [e4] at e3; rw [e3] at e2; rw [e2] at e1
  exact ⟨e1, wf_i64b w1, wf_i64b w2, w3, wf_i64b w6, wf_i64b w7, wf_i64b w8, wf_i64b w9, w10, w11⟩
end Go.Proofs.YthpmmfapolcaiaaGreatDoor

/- A state handed in, opened. -/
namespace Go.Proofs.YthpmmfapolcaiaaGreatDoor
open Go Go.Eng Go.Proofs
open Go.ChangeShapes Go.WideShapes Go.ChangeAt Go.RowKit
theorem opens_flight : Opens Tryz.prog T_api_Flight RFlight (fun _ => 9) := by
  refine Opens.map (Opens.struct (sz := 8) Tryz.underlying100 (by kernel_rfl) (OpensFs.cons (s := 1) rfl (by kernel_rfl) (Opens.int Tryz.underlying3) (OpensFs.cons (s := 1) rfl (by kernel_rfl) (Opens.int Tryz.underlying3) (OpensFs.cons (s := 1) rfl (by kernel_rfl) (Opens.int Tryz.underlying3)
    (OpensFs.cons (s := 1) rfl (by kernel_rfl) (Opens.int Tryz.underlying3) (OpensFs.cons (s := 4) rfl (by kernel_rfl) (Opens.ints4 Tryz.underlying24 Tryz.underlying3 (by kernel_rfl) (by kernel_rfl)) OpensFs.nil)))))) (fun x => ⟨x.1, x.2.1, x.2.2.1, x.2.2.2.1, x.2.2.2.2.1.1, x.2.2.2.2.1.2.1, x.2.2.2.2.1.2.2.1, x.2.2.2.2.1.2.2.2⟩) ?_ (fun x => by (try simp only); omega)
  intro W cs x h
  obtain ⟨e1, w1, h⟩ := pair_int h
  obtain ⟨e2, w2, h⟩ := pair_int h
  obtain ⟨e3, w3, h⟩ := pair_int h
  obtain ⟨e4, w4, h⟩ := pair_int h
  obtain ⟨e5, ⟨w5, w6, w7, w8⟩, h⟩ := pair_ints4 h
  have h : (((((cs.drop 1).drop 1).drop 1).drop 1).drop 4) = [] := h
  rw [h] at e5; rw [e5] at e4; rw [e4] at e3; rw [e3] at e2; rw [e2] at e1
  exact ⟨e1, wf_i64b w1, wf_i64b w2, wf_i64b w3, wf_i64b w4, w5, w6, w7, w8⟩
theorem opens_equip : Opens Tryz.prog T_api_Equip REquip (fun e => (e.rows.map fun r => r.seats.length + 6).sum + 3) := by
  refine Opens.map (Opens.struct (sz := 2) Tryz.underlying110 (by kernel_rfl) (OpensFs.cons (s := 1) rfl (by kernel_rfl) (Opens.int Tryz.underlying3) (OpensFs.cons (s := 1) rfl (by kernel_rfl) (Opens.slice Tryz.underlying60 (show Tryz.prog.cellsOf T_api_Row = 5 by kernel_rfl) (by decide) opens_row) OpensFs.nil)))
    (fun x => ⟨x.1, x.2.1⟩) ?_ (fun x => by (try simp only); omega)
  intro W cs x h
  obtain ⟨e1, w1, h⟩ := pair_int h
  obtain ⟨v, e2, h2, h⟩ := pair_sl h
  have h : ((cs.drop 1).drop 1) = [] := h
  rw [h] at e2; rw [e2] at e1
  exact ⟨v, e1, wf_i64b w1, h2⟩
theorem opens_state : Opens Tryz.prog T_api_State RState (fun s => (s.eqs.map fun e => (e.rows.map fun r => r.seats.length + 6).sum + 3).sum + 9 * s.fls.length + 14 * s.pxs.length + 4) := by
  have hc : ∀ (l : List FlightM), (l.map fun _ => 9).sum = 9 * l.length := fun l => by
    induction l with
    | nil => rfl
    | cons a l ih => simp only [List.map_cons, List.sum_cons, List.length_cons, ih]; omega
  have hd : ∀ (l : List PaxM), (l.map fun _ => 14).sum = 14 * l.length := fun l => by
    induction l with
    | nil => rfl
    | cons a l ih => simp only [List.map_cons, List.sum_cons, List.length_cons, ih]; omega
  refine Opens.map (Opens.struct (sz := 3) Tryz.underlying47 (by kernel_rfl) (OpensFs.cons (s := 1) rfl (by kernel_rfl) (Opens.slice Tryz.underlying43 (show Tryz.prog.cellsOf T_api_Equip = 2 by kernel_rfl) (by decide) opens_equip)
    (OpensFs.cons (s := 1) rfl (by kernel_rfl) (Opens.slice Tryz.underlying44 (show Tryz.prog.cellsOf T_api_Flight = 8 by kernel_rfl) (by decide) opens_flight)
    (OpensFs.cons (s := 1) rfl (by kernel_rfl) (Opens.slice Tryz.underlying45 (show Tryz.prog.cellsOf T_api_Pax = 13 by kernel_rfl) (by decide) opens_pax) OpensFs.nil))))
    (fun x => ⟨x.1, x.2.1, x.2.2.1⟩) ?_ (fun x => by simp only [hc, hd]; omega)
  intro W cs x h
  obtain ⟨u, e1, h1, h⟩ := pair_sl h
  obtain ⟨v, e2, h2, h⟩ := pair_sl h
  obtain ⟨z, e3, h3, h⟩ := pair_sl h
  have h : (((cs.drop 1).drop 1).drop 1) = [] := h
  rw [h] at e3; rw [e3] at e2; rw [e2] at e1
  exact ⟨u, v, z, e1, h1, h2, h3⟩
theorem open_state {H : Type} {enc : TypeId × Value → H} {W : World} {v : Value} {d : DataW H} {p : List MemPlace} (hd : DataW.Trod enc Tryz.prog W 0 (fun _ => true) true T_api_State v d p) :
    ∃ (s : StateM) (a b c : Option Addr) (ca cb cc : Nat), v = .agg ⟨[.slice a s.eqs.length ca, .slice b s.fls.length cb, .slice c s.pxs.length cc]⟩ ∧ RSl 2 REquip W [.slice a s.eqs.length ca] s.eqs ∧ RSl 8 RFlight W [.slice b s.fls.length cb] s.fls ∧ RSl 13 RPax W [.slice c s.pxs.length cc] s.pxs ∧
      (s.eqs.map fun e => (e.rows.map fun r => r.seats.length + 6).sum + 3).sum + 9 * s.fls.length + 14 * s.pxs.length + 4 ≤ Rows.uptoBulk d := by
  obtain ⟨s, ⟨u, v', x, hcs, h1, h2, h3⟩, hb⟩ := Trod.out hd opens_state
  obtain ⟨a, ca, rfl, -, -, h1⟩ := h1.inv
  obtain ⟨b, cb, rfl, -, -, h2⟩ := h2.inv
  obtain ⟨c, cc, rfl, -, -, h3⟩ := h3.inv
  refine ⟨s, a, b, c, ca, cb, cc, ?_, h1, h2, h3, hb⟩
  cases v with
  | agg cs => cases cs; simp only [Value.cells] at hcs; rw [hcs]
  | _ => simp [Value.cells] at hcs
end Go.Proofs.YthpmmfapolcaiaaGreatDoor

/- Arrays: an element of an array's value, slices of an array, copies within a block. -/
namespace Go.Eng
open Go

section
variable {P : Program} {T0 : Tbl}
theorem indexArr (hT : TOk P T0) {t e : TypeId} {i ie : TI} {n : Nat} (hi : tf T0 t = some i) (hk : i.k = .arr n e 1) (hie : tf T0 e = some ie) (hagg : ie.agg = false) {cs : List Value} {j : Nat} (hj : j < n) {v : Value} (hv : cs[j]? = some v) {k : IntKind} {K : Value → Prop} (hK : K v) :
    PureRun P (Instr.index t (.agg ⟨cs⟩) (.int k (j : Int))) K := by
  refine ⟨v, fun w => ?_, hK⟩
  have ht := und_of hT hi; rw [hk] at ht
  obtain ⟨hu, hs⟩ := ht
  cases hinf : P.info? e with
  | none => rw [hinf] at hs; simp at hs
  | some inf =>
    rw [hinf] at hs
    have hs1 : inf.size = 1 := by simpa using hs
    have ha : (isAgg e).run P w = .ok false w := load_one hT hie hagg w
    simp [Instr.index, run_underlying hu, asIntOf, hj, part, ha, sizeOf, typeInfo, hinf, hs1]
    rw [hv]; rfl
theorem sliceArrL (hT : TOk P T0) {t e : TypeId} {i : TI} {n sz : Nat} (hi : tf T0 t = some i) (hk : i.k = .arr n e sz) {b off l : Nat} (hl : l ≤ n) {k : IntKind} {C : World → Prop} {K : Value → Prop} (hK : K (.slice (subA b off l n sz) (n - l) (n - l))) :
    RdG P (Instr.sliceAt t (.pointer (some ⟨b, off, none⟩)) (some (.int k (l : Int))) none none) C K := by
  refine ⟨_, fun w _ => ?_, hK⟩
  have ht := und_of hT hi; rw [hk] at ht
  obtain ⟨hu, hs⟩ := ht
  cases hinf : P.info? e with
  | none => rw [hinf] at hs; simp at hs
  | some inf =>
    rw [hinf] at hs
    have hs1 : inf.size = sz := by simpa using hs
    have e1 : P.elem t = e := by simp [Program.elem, hu]
    have e2 : P.arrayLen t = n := by simp [Program.arrayLen, hu]
    rw [run_sliceAt_array_l w t ⟨b, off, none⟩ (by rw [e1, e2]; exact hu) k l (by omega) (by rw [e2]; omega)]
    rw [e1, e2]
    simp [sizeOf, typeInfo, hinf, hs1, slicedAt, subA, Addr.add_eq]
theorem sliceArrM (hT : TOk P T0) {t e : TypeId} {i : TI} {n sz : Nat} (hi : tf T0 t = some i) (hk : i.k = .arr n e sz) {b off l : Nat} (hl : l < n) {k : IntKind} {C : World → Prop} {K : Value → Prop} (hK : K (.slice (some ⟨b, off + l * sz, none⟩) (n - l) (n - l))) :
    RdG P (Instr.sliceAt t (.pointer (some ⟨b, off, none⟩)) (some (.int k (l : Int))) none none) C K := by
  refine sliceArrL hT hi hk (by omega) ?_
  unfold subA; rw [if_neg (by omega)]; exact hK
theorem sliceArrH (hT : TOk P T0) {t e : TypeId} {i : TI} {n sz : Nat} (hi : tf T0 t = some i) (hk : i.k = .arr n e sz) {b off h : Nat} (hl : h ≤ n) {k : IntKind} {C : World → Prop} {K : Value → Prop} (hK : K (.slice (some ⟨b, off, none⟩) h n)) :
    RdG P (Instr.sliceAt t (.pointer (some ⟨b, off, none⟩)) none (some (.int k (h : Int))) none) C K := by
  refine ⟨_, fun w _ => ?_, hK⟩
  have ht := und_of hT hi; rw [hk] at ht
  obtain ⟨hu, hs⟩ := ht
  cases hinf : P.info? e with
  | none => rw [hinf] at hs; simp at hs
  | some inf =>
    rw [hinf] at hs
    have hs1 : inf.size = sz := by simpa using hs
    have e1 : P.elem t = e := by simp [Program.elem, hu]
    have e2 : P.arrayLen t = n := by simp [Program.arrayLen, hu]
    rw [run_sliceAt_array_h w t ⟨b, off, none⟩ (by rw [e1, e2]; exact hu) k h (by omega) (by rw [e2]; omega)]
    rw [e1, e2]
    simp [sizeOf, typeInfo, hinf, hs1, slicedAt, Addr.add_eq]
theorem sliceArrA (hT : TOk P T0) {t e : TypeId} {i : TI} {n sz : Nat} (hi : tf T0 t = some i) (hk : i.k = .arr n e sz) {b off : Nat} {C : World → Prop} {K : Value → Prop} (hK : K (.slice (some ⟨b, off, none⟩) n n)) :
    RdG P (Instr.sliceAt t (.pointer (some ⟨b, off, none⟩)) none none none) C K := by
  refine ⟨_, fun w _ => ?_, hK⟩
  have ht := und_of hT hi; rw [hk] at ht
  obtain ⟨hu, hs⟩ := ht
  cases hinf : P.info? e with
  | none => rw [hinf] at hs; simp at hs
  | some inf =>
    rw [hinf] at hs
    have hs1 : inf.size = sz := by simpa using hs
    have e1 : P.elem t = e := by simp [Program.elem, hu]
    have e2 : P.arrayLen t = n := by simp [Program.arrayLen, hu]
    rw [run_sliceAt_array_all w t ⟨b, off, none⟩ (by rw [e1, e2]; exact hu)]
    rw [e1, e2]
    simp [sizeOf, typeInfo, hinf, slicedAt, Addr.add_eq]
/-- copy into an own block, from whatever is read. -/
theorem St.copy (hT : TOk P T0) {t u e ty : TypeId} {i : TI} (hi : tf T0 t = some i) (hk : i.k = .slice e 1) {w0 w : World} {T : List Nat} {H : Heap} {g off n cap : Nat} {l : List Value} {et : TypeId} {F : Obj → Heap} (hS : St w0 T H w) [hs : Slot H g (.cells ⟨l⟩ et (0, 0)) F]
    {a : Addr} {m c : Nat} {cs : List Value} (hn : cs.length = min m n) (ha : Arr w [] (some a) cs) (h1 : cs.all Value.oneCell' = true) (hfit : off + cs.length ≤ l.length) {K : Value → World → Prop}
    (h : ∀ w', St w0 T (F (.cells ⟨splice l off cs⟩ et (0, 0))) w' → K (.int .i64 cs.length) w') :
    RunG P (Builtin.copy_ ⟨[t, u]⟩ ty ⟨[.slice (some ⟨g, off, none⟩) n cap, .slice (some a) m c]⟩) w K := by
  have ht := und_of hT hi; rw [hk] at ht
  have hmem := hS.mem (b := g)
  refine RunG.of (run_copy_row P w t u ty e g off n cap a m c ⟨l⟩ et cs ht.1 ht.2 hmem hn (fun j v hj => ?_) (by simpa using hfit) (fun v hv => List.all_eq_true.1 h1 v hv)) ?_
  · obtain ⟨b', o', h2, -, h3⟩ := ha j v hj
    cases h2
    rw [Addr.add_eq]; exact h3
  · exact h _ (hS.setRow (l := l))
end
end Go.Eng

/- == and != on structs of numbers, bools, texts and such structs. -/
namespace Go.Eng
open Go

section
variable {P : Program} {T0 : Tbl}
def PartIs (P : Program) (t : TypeId) (xs : List Value) (off : Nat) (v : Value) : Prop := ∀ w, (part t ⟨xs⟩ off).run P w = .ok v w
theorem PartIs.one (hT : TOk P T0) {t : TypeId} {i : TI} (hi : tf T0 t = some i) (ha : i.agg = false) {xs : List Value} {off : Nat} {v : Value} (hx : xs[off]? = some v) : PartIs P t xs off v := by
  intro w
  have h1 := load_one hT hi ha w
  simp [part, h1]
  rw [hx]; rfl
theorem PartIs.agg (hT : TOk P T0) {t : TypeId} {i : TI} (hi : tf T0 t = some i) (ha : i.agg = true) {xs vs : List Value} {off : Nat} (hx : (xs.drop off).take i.size = vs) : PartIs P t xs off (.agg ⟨vs⟩) := by
  intro w
  have h1 := load_agg hT hi ha w
  have h2 := size_of hT hi w
  simp [part, h1, h2]
  exact hx
/-- Two values of a type are compared, however deep n parts below may lie. -/
def EqV (n : Nat) (P : Program) (t : TypeId) (a b : Value) (r : Bool) : Prop := ∀ k w, (Op.equalIn (k + n) t a b).run P w = .ok r w
def fieldRows (fs : List Field) : List (Bool × TypeId × Nat) := fs.map fun f => (decide (f.name ≠ "_"), f.type, f.offset)
def EqFs (n : Nat) (P : Program) (xs ys : List Value) (d : List (TypeId × Nat)) (r : Bool) : Prop :=
  ∀ (fs : List Field), fieldRows fs = d.map (fun x => (true, x.1, x.2)) → ∀ k w, (Op.eqFields (k + n) ⟨xs⟩ ⟨ys⟩ fs).run P w = .ok r w
theorem EqV.int {n : Nat} (hT : TOk P T0) {t : TypeId} {i : TI} (hi : tf T0 t = some i) {kk k : IntKind} (hk : i.k = .int kk) (a b : Int) : EqV (n + 1) P t (.int k a) (.int k b) (decide (a = b)) := by
  intro d w
  have h := und_of hT hi; rw [hk] at h
  rw [show decide (a = b) = (a == b) by rw [Bool.eq_iff_iff]; simp]
  exact run_equalIn_int w (d + n) t k kk a b h
theorem EqV.bool {n : Nat} (hT : TOk P T0) {t : TypeId} {i : TI} (hi : tf T0 t = some i) (hk : i.k = .bool) (a b : Bool) : EqV (n + 1) P t (.bool a) (.bool b) (decide (a = b)) := by
  intro d w
  have h := und_of hT hi; rw [hk] at h
  rw [show decide (a = b) = (a == b) by rw [Bool.eq_iff_iff]; simp]
  exact run_equalIn_bool' w (d + n) t a b h
theorem EqV.str {n : Nat} (hT : TOk P T0) {t : TypeId} {i : TI} (hi : tf T0 t = some i) (hk : i.k = .str) (a b : List UInt8) : EqV (n + 1) P t (Str a) (Str b) (decide (a = b)) := by
  intro d w
  have h := und_of hT hi; rw [hk] at h
  rw [show decide (a = b) = ((⟨⟨a⟩⟩ : ByteArray).toList == (⟨⟨b⟩⟩ : ByteArray).toList) by rw [bytes_toList, bytes_toList, Bool.eq_iff_iff]; simp]
  exact run_equalIn_string w (d + n) t _ _ h
theorem EqFs.nil {n : Nat} {xs ys : List Value} : EqFs n P xs ys [] true := by
  intro fs h k w
  cases fs with
  | nil => simp [Op.eqFields]
  | cons f fs => simp [fieldRows] at h
theorem EqFs.cons {n : Nat} {xs ys : List Value} {t : TypeId} {off : Nat} {d : List (TypeId × Nat)} {a b : Value} {r1 r2 : Bool} (h1 : PartIs P t xs off a) (h2 : PartIs P t ys off b) (h3 : EqV n P t a b r1) (h4 : EqFs n P xs ys d r2) :
    EqFs n P xs ys ((t, off) :: d) (r1 && r2) := by
  intro fs h k w
  cases fs with
  | nil => simp [fieldRows] at h
  | cons f fs =>
    simp only [fieldRows, List.map_cons, List.cons.injEq, Prod.mk.injEq, decide_eq_true_eq] at h
    obtain ⟨⟨hn, rfl, rfl⟩, h⟩ := h
    have e := h4 fs h k w
    simp only [Op.eqFields, if_pos hn, Sem.run_bind, h1 w, h2 w, h3 k w, Result.andThen_ok, Sem.run_ite]
    cases r1 with
    | false => simp
    | true => simp [e]
theorem EqV.struct {n : Nat} {t : TypeId} {d : List (TypeId × Nat)} (ht : P.underlying t = some (.struct (P.fieldsOf t))) (hp : P.stoodInHeld t = false) (hd : fieldRows (P.fieldsOf t).toList = d.map (fun x => (true, x.1, x.2))) {xs ys : List Value} {r : Bool} (h : EqFs n P xs ys d r) :
    EqV (n + 1) P t (.agg ⟨xs⟩) (.agg ⟨ys⟩) r := by
  intro k w
  rw [show k + (n + 1) = (k + n) + 1 by omega, run_equalIn_struct w (k + n) t _ _ ht hp]
  exact h _ hd k w
theorem eqlAgg {n : Nat} {t : TypeId} {x y : Operand} {xs ys : List Value} {r : Bool} (hn : n ≤ 10000) (hm : P.eqGuardType P.depth t = false) (h : EqV n P t (.agg ⟨xs⟩) (.agg ⟨ys⟩) r) {K : Value → Prop} (hK : K (.bool r)) :
    PureRun P (do eqGuard .eql t x y (.agg ⟨xs⟩) (.agg ⟨ys⟩); binOp .eql t (.agg ⟨xs⟩) (.agg ⟨ys⟩)) K := by
  refine ⟨_, fun w => ?_, hK⟩
  have h1 := run_eqGuard_agg (P := P) w .eql t x y ⟨xs⟩ ⟨ys⟩ hm
  have h2 := h (10000 - n) w
  rw [show 10000 - n + n = 10000 by omega] at h2
  simp only [Sem.run_bind, h1, Result.andThen_ok, run_eql_struct, h2]
theorem neqAgg {n : Nat} {t : TypeId} {x y : Operand} {xs ys : List Value} {r : Bool} (hn : n ≤ 10000) (hm : P.eqGuardType P.depth t = false) (h : EqV n P t (.agg ⟨xs⟩) (.agg ⟨ys⟩) r) {K : Value → Prop} (hK : K (.bool (!r))) :
    PureRun P (do eqGuard .neq t x y (.agg ⟨xs⟩) (.agg ⟨ys⟩); binOp .neq t (.agg ⟨xs⟩) (.agg ⟨ys⟩)) K := by
  refine ⟨_, fun w => ?_, hK⟩
  have h1 := run_eqGuard_agg (P := P) w .neq t x y ⟨xs⟩ ⟨ys⟩ hm
  have h2 := h (10000 - n) w
  rw [show 10000 - n + n = 10000 by omega] at h2
  simp only [Sem.run_bind, h1, Result.andThen_ok, run_neq_struct, h2]
end
end Go.Eng

/- Blocks apart. -/
namespace Go.Eng
open Go
theorem nodup_chunk {w0 w : World} {T : List Nat} {b : Nat} {o : Obj} {H L : Heap} {F : Heap → Heap} (hS : St w0 T ((b, o) :: H) w) [hc : Chunk H L F] : b ∉ keys L := by
  obtain ⟨A, B, h1, -⟩ := hc.at_
  have := hS.nd
  rw [h1] at this
  simp only [keys, List.map_cons, List.map_append, List.nodup_cons] at this
  intro h
  exact this.1 (List.mem_append_right _ (List.mem_append_left _ h))
/-- A row of the call's own, from a place on. -/
theorem St.arrAt {w0 w : World} {T : List Nat} {H : Heap} {b off : Nat} {l xs : List Value} {t : TypeId} {fz : Nat × Nat} {F : Obj → Heap} (hS : St w0 T H w) [Slot H b (.cells ⟨l⟩ t fz) F]
    (hx : (l.drop off).take xs.length = xs) {T' : List Nat} (hb : b ∉ T') : Arr w T' (some ⟨b, off, none⟩) xs := fun j x hj => ⟨b, off, rfl, hb, by
      rw [← hx, List.getElem?_take] at hj
      split at hj
      · rw [List.getElem?_drop] at hj; exact hS.cell hj
      · cases hj⟩
theorem nodup_last {w0 w : World} {T : List Nat} {x : Nat × Obj} {L : Heap} {b : Nat} {o : Obj} (hS : St w0 T (x :: (L ++ [(b, o)])) w) : b ∉ keys L := by
  have := hS.nd
  rw [keys, List.map_cons, List.nodup_cons, List.map_append, List.nodup_append] at this
  intro h
  exact this.2.2.2 _ h _ (by simp) rfl
end Go.Eng

/- Package rows: the values of records. -/
namespace Go.Proofs.YthpmmfapolcaiaaGreatDoor
open Go Go.Eng Go.Proofs
set_option maxHeartbeats 1000000 in
theorem marks_spec {w : World} {b : Nat} {bs : Bytes} {L : Heap} (hW : PackW b bs L) (hh : Holds L w) {a : Option Addr} {cap : Nat} {l : List Bool} (ha : Arr w (keys L) a (l.map Value.bool)) (hl : l.length ≤ 8) (hlen : bs.length ≤ 70368744177664) :
    Cl Tryz.prog f_rows_writer_marks [.agg ⟨[ptr b]⟩, .slice a l.length cap] w fun _ w' => ∃ L', PackW b (bs ++ numB (marksN l)) L' ∧ St w (keys L) L' w' := by
  have hS := St.enter hh
  generalize hT : keys L = T0 at hS ha ⊢
  refine en_rows_writer_marks rfl ?_
  repeat (first | refine SemW.run tblOk ?_ | refine jA (by omega) ?_ | refine jB (by omega) ?_ | refine jC (by omega) ?_ | refine jD (by omega) ?_ | refine jE rfl ?_ | refine jF (by omega) ?_ | (refine jG ?_; first | with_reducible (first | refine jH ?_ | refine jI ?_ | refine jJ ?_ | refine jK ?_ | refine jL ?_) | refine jM (by omega) ?_ | refine jN (by omega) ?_ | with_reducible refine jM rfl ?_ | refine jM (by assumption) ?_ | refine jN (by assumption) ?_ | refine jM (by decide) ?_ | refine jN (by decide) ?_) | refine jF (ptr_ok tblOk rfl rfl) ?_ | refine jO (fun _ => by kernel_rfl) ?_ | refine jF (by decide) ?_)
  refine hS.al ?_
  intro tb w1 _ hS
  repeat (first | refine SemW.run tblOk ?_ | refine jA (by omega) ?_ | refine jB (by omega) ?_ | refine jC (by omega) ?_ | refine jD (by omega) ?_ | refine jE rfl ?_ | refine jF (by omega) ?_ | (refine jG ?_; first | with_reducible (first | refine jH ?_ | refine jI ?_ | refine jJ ?_ | refine jK ?_ | refine jL ?_) | refine jM (by omega) ?_ | refine jN (by omega) ?_ | with_reducible refine jM rfl ?_ | refine jM (by assumption) ?_ | refine jN (by assumption) ?_ | refine jM (by decide) ?_ | refine jN (by decide) ?_) | refine jF (ptr_ok tblOk rfl rfl) ?_ | refine jO (fun _ => by kernel_rfl) ?_ | refine jF (by decide) ?_)
  refine SemW.loop (fun k : Nat => [(2, ptr tb), (4, .int .u64 (marksN (l.take k) : Nat)), (7, .slice a l.length cap), (8, .int .i64 l.length), (9, .int .i64 k)])
    (fun k w' => k ≤ l.length ∧ St w T0 ((tb, .cells ⟨[ptr b]⟩ T_rows_writer (0, 0)) :: L) w') (fun k => l.length - k) 0
    ⟨rfl, rfl, rfl, rfl, rfl, trivial⟩ ⟨Nat.zero_le _, hS⟩ ?_
  rintro k w2 ⟨hk, hS⟩
  by_cases hkl : k < l.length
  · obtain ⟨b', off', rfl, hbT, hck⟩ := ha.get (j := k) (by simp; omega)
    simp only [List.getElem_map] at hck
    have hsn := marksN_snoc (l.take k) l[k]
    rw [← List.take_succ_eq_append_getElem hkl] at hsn
    have hlt := marksN_lt (l.take k)
    have htk : (l.take k).length = k := by simp; omega
    rw [htk] at hlt hsn
    have hk8 : 2 ^ k ≤ 2 ^ 7 := Nat.pow_le_pow_right (by omega) (by omega)
    generalize marksN (l.take k) = m at hsn hlt ⊢
    repeat (first | refine SemW.run tblOk ?_ | refine jA (by omega) ?_ | refine jB (by omega) ?_ | refine jC (by omega) ?_ | refine jD (by omega) ?_ | refine jE rfl ?_ | refine jF (by omega) ?_ | (refine jG ?_; first | with_reducible (first | refine jH ?_ | refine jI ?_ | refine jJ ?_ | refine jK ?_ | refine jL ?_) | refine jM (by omega) ?_ | refine jN (by omega) ?_ | with_reducible refine jM rfl ?_ | refine jM (by assumption) ?_ | refine jN (by assumption) ?_ | refine jM (by decide) ?_ | refine jN (by decide) ?_) | refine jF (ptr_ok tblOk rfl rfl) ?_ | refine jO (fun _ => by kernel_rfl) ?_ | refine jF (by decide) ?_)
    refine hS.ldOld hbT (by simpa using hck) ?_
    generalize l[k] = bit at hsn ⊢
    cases bit with
    | true =>
      simp only [if_true] at hsn
      have e1 : orI .u64 (m : Int) (IntKind.u64.wrap (1 * 2 ^ (min ((k : Int)).toNat IntKind.u64.bits))) = ((m + 2 ^ k : Nat) : Int) := by
        rw [show min ((k : Int)).toNat IntKind.u64.bits = k by show min _ 64 = _; omega]
        have e2 : (1 : Int) * 2 ^ k = ((2 ^ k : Nat) : Int) := by simp
        have e3 : 2 ^ k % 2 ^ IntKind.u64.bits = 2 ^ k := Nat.mod_eq_of_lt (show 2 ^ k < 18446744073709551616 by omega)
        rw [e2, wrapU .u64 rfl, e3, orU .u64 rfl _ _ (show m < 18446744073709551616 by omega) (show 2 ^ k < 18446744073709551616 by omega), Nat.or_comm]
        have := or_add 1 m k hlt
        rw [Nat.one_mul] at this
        rw [this, Nat.add_comm]
      repeat (first | refine SemW.run tblOk ?_ | refine jA (by omega) ?_ | refine jB (by omega) ?_ | refine jC (by omega) ?_ | refine jD (by omega) ?_ | refine jE rfl ?_ | refine jF (by omega) ?_ | (refine jG ?_; first | with_reducible (first | refine jH ?_ | refine jI ?_ | refine jJ ?_ | refine jK ?_ | refine jL ?_) | refine jM (by omega) ?_ | refine jN (by omega) ?_ | with_reducible refine jM rfl ?_ | refine jM (by assumption) ?_ | refine jN (by assumption) ?_ | refine jM (by decide) ?_ | refine jN (by decide) ?_) | refine jF (ptr_ok tblOk rfl rfl) ?_ | refine jO (fun _ => by kernel_rfl) ?_ | refine jF (by decide) ?_)
      rw [e1]
      repeat (first | refine SemW.run tblOk ?_ | refine jA (by omega) ?_ | refine jB (by omega) ?_ | refine jC (by omega) ?_ | refine jD (by omega) ?_ | refine jE rfl ?_ | refine jF (by omega) ?_ | (refine jG ?_; first | with_reducible (first | refine jH ?_ | refine jI ?_ | refine jJ ?_ | refine jK ?_ | refine jL ?_) | refine jM (by omega) ?_ | refine jN (by omega) ?_ | with_reducible refine jM rfl ?_ | refine jM (by assumption) ?_ | refine jN (by assumption) ?_ | refine jM (by decide) ?_ | refine jN (by decide) ?_) | refine jF (ptr_ok tblOk rfl rfl) ?_ | refine jO (fun _ => by kernel_rfl) ?_ | refine jF (by decide) ?_)
      exact ⟨k + 1, ⟨rfl, congrArg (Value.int .u64) (by rw [hsn]), rfl, rfl, rfl, trivial⟩, ⟨by omega, hS⟩, by omega⟩
    | false =>
      simp only [Bool.false_eq_true, if_false, Nat.add_zero] at hsn
      repeat (first | refine SemW.run tblOk ?_ | refine jA (by omega) ?_ | refine jB (by omega) ?_ | refine jC (by omega) ?_ | refine jD (by omega) ?_ | refine jE rfl ?_ | refine jF (by omega) ?_ | (refine jG ?_; first | with_reducible (first | refine jH ?_ | refine jI ?_ | refine jJ ?_ | refine jK ?_ | refine jL ?_) | refine jM (by omega) ?_ | refine jN (by omega) ?_ | with_reducible refine jM rfl ?_ | refine jM (by assumption) ?_ | refine jN (by assumption) ?_ | refine jM (by decide) ?_ | refine jN (by decide) ?_) | refine jF (ptr_ok tblOk rfl rfl) ?_ | refine jO (fun _ => by kernel_rfl) ?_ | refine jF (by decide) ?_)
      exact ⟨k + 1, ⟨rfl, congrArg (Value.int .u64) (by rw [hsn]), rfl, rfl, rfl, trivial⟩, ⟨by omega, hS⟩, by omega⟩
  · have hke : k = l.length := by omega
    subst hke
    rw [List.take_length]
    have hlt := marksN_lt l
    have hk8 : 2 ^ l.length ≤ 2 ^ 8 := Nat.pow_le_pow_right (by omega) hl
    repeat (first | refine SemW.run tblOk ?_ | refine jA (by omega) ?_ | refine jB (by omega) ?_ | refine jC (by omega) ?_ | refine jD (by omega) ?_ | refine jE rfl ?_ | refine jF (by omega) ?_ | (refine jG ?_; first | with_reducible (first | refine jH ?_ | refine jI ?_ | refine jJ ?_ | refine jK ?_ | refine jL ?_) | refine jM (by omega) ?_ | refine jN (by omega) ?_ | with_reducible refine jM rfl ?_ | refine jM (by assumption) ?_ | refine jN (by assumption) ?_ | refine jM (by decide) ?_ | refine jN (by decide) ?_) | refine jF (ptr_ok tblOk rfl rfl) ?_ | refine jO (fun _ => by kernel_rfl) ?_ | refine jF (by decide) ?_ | refine hS.ld rfl ?_ | refine hS.ldn rfl ?_ | (refine hS.st rfl rfl ?_; intro _ hS))
    refine hS.al ?_
    intro r w3 _ hS
    repeat (first | refine SemW.run tblOk ?_ | refine jA (by omega) ?_ | refine jB (by omega) ?_ | refine jC (by omega) ?_ | refine jD (by omega) ?_ | refine jE rfl ?_ | refine jF (by omega) ?_ | (refine jG ?_; first | with_reducible (first | refine jH ?_ | refine jI ?_ | refine jJ ?_ | refine jK ?_ | refine jL ?_) | refine jM (by omega) ?_ | refine jN (by omega) ?_ | with_reducible refine jM rfl ?_ | refine jM (by assumption) ?_ | refine jN (by assumption) ?_ | refine jM (by decide) ?_ | refine jN (by decide) ?_) | refine jF (ptr_ok tblOk rfl rfl) ?_ | refine jO (fun _ => by kernel_rfl) ?_ | refine jF (by decide) ?_ | refine hS.ld rfl ?_ | refine hS.ldn rfl ?_ | (refine hS.st rfl rfl ?_; intro _ hS))
    refine Cl.mono (Num_spec hW (hS.part (L := L)) (ns := [marksN l]) (hS.arr (b := r) (nodup_chunk hS)) (by intro n hn; simp only [List.mem_cons, List.mem_nil_iff, or_false] at hn; subst hn; omega) (by simp) (by simp; omega)) ?_
    rintro _ w4 ⟨L1, hW1, hS'⟩
    have hS := hS.call (L := L) hS'
    repeat (first | refine SemW.run tblOk ?_ | refine jA (by omega) ?_ | refine jB (by omega) ?_ | refine jC (by omega) ?_ | refine jD (by omega) ?_ | refine jE rfl ?_ | refine jF (by omega) ?_ | (refine jG ?_; first | with_reducible (first | refine jH ?_ | refine jI ?_ | refine jJ ?_ | refine jK ?_ | refine jL ?_) | refine jM (by omega) ?_ | refine jN (by omega) ?_ | with_reducible refine jM rfl ?_ | refine jM (by assumption) ?_ | refine jN (by assumption) ?_ | refine jM (by decide) ?_ | refine jN (by decide) ?_) | refine jF (ptr_ok tblOk rfl rfl) ?_ | refine jO (fun _ => by kernel_rfl) ?_ | refine jF (by decide) ?_)
    refine ⟨L1, ?_, hS.sub ((List.sublist_cons_self _ _).trans (List.sublist_cons_self _ _))⟩
    simpa using hW1
set_option maxHeartbeats 4000000 in
theorem equip_spec {w : World} (e : EquipM) {a : Option Addr} {cap : Nat} (hR : RSl 5 RRow w [.slice a e.rows.length cap] e.rows) (hok : ∀ r ∈ e.rows, r.ok) (hw : rowsW e.rows ≤ 8388608) :
    Cl Tryz.prog f_rows_equip [.agg ⟨[.int .i64 e.id, .slice a e.rows.length cap]⟩] w fun v w' => v = Str (equipB e) ∧ St w [] [] w' := by
  have hS := St.start w
  have hwl := rowsW_len e.rows
  refine en_rows_equip rfl ?_
  repeat (first | refine SemW.run tblOk ?_ | refine jA (by omega) ?_ | refine jB (by omega) ?_ | refine jC (by omega) ?_ | refine jD (by omega) ?_ | refine jE rfl ?_ | refine jF (by omega) ?_ | (refine jG ?_; first | with_reducible (first | refine jH ?_ | refine jI ?_ | refine jJ ?_ | refine jK ?_ | refine jL ?_) | refine jM (by omega) ?_ | refine jN (by omega) ?_ | with_reducible refine jM rfl ?_ | refine jM (by assumption) ?_ | refine jN (by assumption) ?_ | refine jM (by decide) ?_ | refine jN (by decide) ?_) | refine jF (ptr_ok tblOk rfl rfl) ?_ | refine jO (fun _ => by kernel_rfl) ?_ | refine jF (by decide) ?_)
  refine hS.al ?_
  intro b1 w1 _ hS
  repeat (first | refine SemW.run tblOk ?_ | refine jA (by omega) ?_ | refine jB (by omega) ?_ | refine jC (by omega) ?_ | refine jD (by omega) ?_ | refine jE rfl ?_ | refine jF (by omega) ?_ | (refine jG ?_; first | with_reducible (first | refine jH ?_ | refine jI ?_ | refine jJ ?_ | refine jK ?_ | refine jL ?_) | refine jM (by omega) ?_ | refine jN (by omega) ?_ | with_reducible refine jM rfl ?_ | refine jM (by assumption) ?_ | refine jN (by assumption) ?_ | refine jM (by decide) ?_ | refine jN (by decide) ?_) | refine jF (ptr_ok tblOk rfl rfl) ?_ | refine jO (fun _ => by kernel_rfl) ?_ | refine jF (by decide) ?_)
  refine Cl.mono PNew_spec ?_
  rintro _ w2 ⟨pb, L, rfl, hW, hS'⟩
  have hS := hS.callNew hS'
  repeat (first | refine SemW.run tblOk ?_ | refine jA (by omega) ?_ | refine jB (by omega) ?_ | refine jC (by omega) ?_ | refine jD (by omega) ?_ | refine jE rfl ?_ | refine jF (by omega) ?_ | (refine jG ?_; first | with_reducible (first | refine jH ?_ | refine jI ?_ | refine jJ ?_ | refine jK ?_ | refine jL ?_) | refine jM (by omega) ?_ | refine jN (by omega) ?_ | with_reducible refine jM rfl ?_ | refine jM (by assumption) ?_ | refine jN (by assumption) ?_ | refine jM (by decide) ?_ | refine jN (by decide) ?_) | refine jF (ptr_ok tblOk rfl rfl) ?_ | refine jO (fun _ => by kernel_rfl) ?_ | refine jF (by decide) ?_)
  refine hS.al ?_
  intro b3 w3 _ hS
  repeat (first | refine SemW.run tblOk ?_ | refine jA (by omega) ?_ | refine jB (by omega) ?_ | refine jC (by omega) ?_ | refine jD (by omega) ?_ | refine jE rfl ?_ | refine jF (by omega) ?_ | (refine jG ?_; first | with_reducible (first | refine jH ?_ | refine jI ?_ | refine jJ ?_ | refine jK ?_ | refine jL ?_) | refine jM (by omega) ?_ | refine jN (by omega) ?_ | with_reducible refine jM rfl ?_ | refine jM (by assumption) ?_ | refine jN (by assumption) ?_ | refine jM (by decide) ?_ | refine jN (by decide) ?_) | refine jF (ptr_ok tblOk rfl rfl) ?_ | refine jO (fun _ => by kernel_rfl) ?_ | refine jF (by decide) ?_ | refine hS.ld rfl ?_ | refine hS.ldn rfl ?_ | (refine hS.st rfl rfl ?_; intro _ hS))
  rename_i w3'
  have hS : St w [] ((b3, .cells ⟨[ptr pb]⟩ T_rows_writer (0, 0)) :: (L ++ [(b1, .cells ⟨[.int .i64 e.id, .slice a e.rows.length cap]⟩ T_api_Equip (0, 0))])) w3' := hS
  refine hS.al ?_
  intro r w4 _ hS
  repeat (first | refine SemW.run tblOk ?_ | refine jA (by omega) ?_ | refine jB (by omega) ?_ | refine jC (by omega) ?_ | refine jD (by omega) ?_ | refine jE rfl ?_ | refine jF (by omega) ?_ | (refine jG ?_; first | with_reducible (first | refine jH ?_ | refine jI ?_ | refine jJ ?_ | refine jK ?_ | refine jL ?_) | refine jM (by omega) ?_ | refine jN (by omega) ?_ | with_reducible refine jM rfl ?_ | refine jM (by assumption) ?_ | refine jN (by assumption) ?_ | refine jM (by decide) ?_ | refine jN (by decide) ?_) | refine jF (ptr_ok tblOk rfl rfl) ?_ | refine jO (fun _ => by kernel_rfl) ?_ | refine jF (by decide) ?_ | refine hS.ld rfl ?_ | refine hS.ldn rfl ?_ | (refine hS.st rfl rfl ?_; intro _ hS))
  refine Cl.mono (Num_spec hW (hS.part (L := L)) (ns := [e.rows.length]) (hS.arr (b := r) (nodup_chunk hS)) (by intro n hn; simp only [List.mem_cons, List.mem_nil_iff, or_false] at hn; subst hn; omega) (by simp) (by simp)) ?_
  rintro _ w5 ⟨L1, hW, hS'⟩
  have hS := hS.call (L := L) hS'
  have hW : PackW pb (numB e.rows.length) L1 := by simpa using hW
  have hS := hS.sub (List.sublist_cons_self _ _)
  have hnl := numB_len10 e.rows.length (by omega)
  repeat (first | refine SemW.run tblOk ?_ | refine jA (by omega) ?_ | refine jB (by omega) ?_ | refine jC (by omega) ?_ | refine jD (by omega) ?_ | refine jE rfl ?_ | refine jF (by omega) ?_ | (refine jG ?_; first | with_reducible (first | refine jH ?_ | refine jI ?_ | refine jJ ?_ | refine jK ?_ | refine jL ?_) | refine jM (by omega) ?_ | refine jN (by omega) ?_ | with_reducible refine jM rfl ?_ | refine jM (by assumption) ?_ | refine jN (by assumption) ?_ | refine jM (by decide) ?_ | refine jN (by decide) ?_) | refine jF (ptr_ok tblOk rfl rfl) ?_ | refine jO (fun _ => by kernel_rfl) ?_ | refine jF (by decide) ?_ | refine hS.ld rfl ?_ | refine hS.ldn rfl ?_ | (refine hS.st rfl rfl ?_; intro _ hS))
  refine SemW.loop (fun k : Nat => [(3, ptr b3), (17, .slice a e.rows.length cap), (18, .int .i64 e.rows.length), (19, .int .i64 k)])
    (fun k w' => k ≤ e.rows.length ∧ ∃ L, PackW pb (numB e.rows.length ++ rowsBt (e.rows.take k)) L ∧ St w [] ((b3, .cells ⟨[ptr pb]⟩ T_rows_writer (0, 0)) :: (L ++ [(b1, .cells ⟨[.int .i64 e.id, .slice a e.rows.length cap]⟩ T_api_Equip (0, 0))])) w') (fun k => e.rows.length - k) 0
    ⟨rfl, rfl, rfl, rfl, trivial⟩ ⟨Nat.zero_le _, L1, by simpa [rowsBt] using hW, hS⟩ ?_
  clear hS hW hS'
  rintro k w6 ⟨hk, L2, hW, hS⟩
  have htw := rowsW_take e.rows k
  have hbl := rowsBt_len (e.rows.take k) (fun r hr => hok r (List.mem_of_mem_take hr)) (by omega)
  by_cases hkl : k < e.rows.length
  · obtain ⟨g, off, cs, rfl, ⟨rfl, hrok⟩, hld⟩ := RSl.ldn (hS.sub (H' := []) (List.nil_sublist _)) hR hkl
    have hsucc := rowsBt_succ e.rows k hkl
    have hat := rowsW_at e.rows k hkl
    generalize e.rows[k] = row at hrok hld hat hsucc
    have hrl := rowB_len row hrok (by omega)
    repeat (first | refine SemW.run tblOk ?_ | refine jA (by omega) ?_ | refine jB (by omega) ?_ | refine jC (by omega) ?_ | refine jD (by omega) ?_ | refine jE rfl ?_ | refine jF (by omega) ?_ | (refine jG ?_; first | with_reducible (first | refine jH ?_ | refine jI ?_ | refine jJ ?_ | refine jK ?_ | refine jL ?_) | refine jM (by omega) ?_ | refine jN (by omega) ?_ | with_reducible refine jM rfl ?_ | refine jM (by assumption) ?_ | refine jN (by assumption) ?_ | refine jM (by decide) ?_ | refine jN (by decide) ?_) | refine jF (ptr_ok tblOk rfl rfl) ?_ | refine jO (fun _ => by kernel_rfl) ?_ | refine jF (by decide) ?_)
    have hil := ints_len [row.num, row.cab, row.zone] (by
      intro z hz
      simp only [List.mem_cons, List.mem_nil_iff, or_false] at hz
      rcases hz with rfl | rfl | rfl
      · exact hrok.num
      · exact hrok.cab
      · exact hrok.zone)
    have hml := numB_len10 (marksN [row.exit]) (by have h3' : marksN [row.exit] < 2 := marksN_lt [row.exit]; omega)
    have hsl : sumLen [row.seats] = row.seats.length := by simp [sumLen]
    simp only [List.length_cons, List.length_nil] at hil
    refine hld _ ?_
    unfold rowC
    repeat (first | refine SemW.run tblOk ?_ | refine jA (by omega) ?_ | refine jB (by omega) ?_ | refine jC (by omega) ?_ | refine jD (by omega) ?_ | refine jE rfl ?_ | refine jF (by omega) ?_ | (refine jG ?_; first | with_reducible (first | refine jH ?_ | refine jI ?_ | refine jJ ?_ | refine jK ?_ | refine jL ?_) | refine jM (by omega) ?_ | refine jN (by omega) ?_ | with_reducible refine jM rfl ?_ | refine jM (by assumption) ?_ | refine jN (by assumption) ?_ | refine jM (by decide) ?_ | refine jN (by decide) ?_) | refine jF (ptr_ok tblOk rfl rfl) ?_ | refine jO (fun _ => by kernel_rfl) ?_ | refine jF (by decide) ?_)
    refine hS.al ?_
    intro b5 w7 _ hS
    repeat (first | refine SemW.run tblOk ?_ | refine jA (by omega) ?_ | refine jB (by omega) ?_ | refine jC (by omega) ?_ | refine jD (by omega) ?_ | refine jE rfl ?_ | refine jF (by omega) ?_ | (refine jG ?_; first | with_reducible (first | refine jH ?_ | refine jI ?_ | refine jJ ?_ | refine jK ?_ | refine jL ?_) | refine jM (by omega) ?_ | refine jN (by omega) ?_ | with_reducible refine jM rfl ?_ | refine jM (by assumption) ?_ | refine jN (by assumption) ?_ | refine jM (by decide) ?_ | refine jN (by decide) ?_) | refine jF (ptr_ok tblOk rfl rfl) ?_ | refine jO (fun _ => by kernel_rfl) ?_ | refine jF (by decide) ?_ | refine hS.ld rfl ?_ | refine hS.ldn rfl ?_ | (refine hS.st rfl rfl ?_; intro _ hS))
    refine hS.al ?_
    intro r2 w8 _ hS
    repeat (first | refine SemW.run tblOk ?_ | refine jA (by omega) ?_ | refine jB (by omega) ?_ | refine jC (by omega) ?_ | refine jD (by omega) ?_ | refine jE rfl ?_ | refine jF (by omega) ?_ | (refine jG ?_; first | with_reducible (first | refine jH ?_ | refine jI ?_ | refine jJ ?_ | refine jK ?_ | refine jL ?_) | refine jM (by omega) ?_ | refine jN (by omega) ?_ | with_reducible refine jM rfl ?_ | refine jM (by assumption) ?_ | refine jN (by assumption) ?_ | refine jM (by decide) ?_ | refine jN (by decide) ?_) | refine jF (ptr_ok tblOk rfl rfl) ?_ | refine jO (fun _ => by kernel_rfl) ?_ | refine jF (by decide) ?_ | refine hS.ld rfl ?_ | refine hS.ldn rfl ?_ | (refine hS.st rfl rfl ?_; intro _ hS))
    refine Cl.mono (Int_spec hW (hS.part (L := L2)) (zs := [row.num, row.cab, row.zone]) (hS.arr (b := r2) (nodup_chunk hS)) (by
      intro z hz
      simp only [List.mem_cons, List.mem_nil_iff, or_false] at hz
      rcases hz with rfl | rfl | rfl
      · exact hrok.num
      · exact hrok.cab
      · exact hrok.zone) (by simp) (by simp; omega)) ?_
    rintro _ w9 ⟨L3, hW, hS'⟩
    have hS := hS.call (L := L2) hS'
    repeat (first | refine SemW.run tblOk ?_ | refine jA (by omega) ?_ | refine jB (by omega) ?_ | refine jC (by omega) ?_ | refine jD (by omega) ?_ | refine jE rfl ?_ | refine jF (by omega) ?_ | (refine jG ?_; first | with_reducible (first | refine jH ?_ | refine jI ?_ | refine jJ ?_ | refine jK ?_ | refine jL ?_) | refine jM (by omega) ?_ | refine jN (by omega) ?_ | with_reducible refine jM rfl ?_ | refine jM (by assumption) ?_ | refine jN (by assumption) ?_ | refine jM (by decide) ?_ | refine jN (by decide) ?_) | refine jF (ptr_ok tblOk rfl rfl) ?_ | refine jO (fun _ => by kernel_rfl) ?_ | refine jF (by decide) ?_ | refine hS.ld rfl ?_ | refine hS.ldn rfl ?_ | (refine hS.st rfl rfl ?_; intro _ hS))
    refine hS.al ?_
    intro r3 w10 _ hS
    repeat (first | refine SemW.run tblOk ?_ | refine jA (by omega) ?_ | refine jB (by omega) ?_ | refine jC (by omega) ?_ | refine jD (by omega) ?_ | refine jE rfl ?_ | refine jF (by omega) ?_ | (refine jG ?_; first | with_reducible (first | refine jH ?_ | refine jI ?_ | refine jJ ?_ | refine jK ?_ | refine jL ?_) | refine jM (by omega) ?_ | refine jN (by omega) ?_ | with_reducible refine jM rfl ?_ | refine jM (by assumption) ?_ | refine jN (by assumption) ?_ | refine jM (by decide) ?_ | refine jN (by decide) ?_) | refine jF (ptr_ok tblOk rfl rfl) ?_ | refine jO (fun _ => by kernel_rfl) ?_ | refine jF (by decide) ?_ | refine hS.ld rfl ?_ | refine hS.ldn rfl ?_ | (refine hS.st rfl rfl ?_; intro _ hS))
    refine Cl.mono (marks_spec hW (hS.part (L := L3)) (l := [row.exit]) (hS.arr (b := r3) (nodup_chunk hS)) (by simp) (by simp only [List.length_append]; omega)) ?_
    rintro _ w11 ⟨L4, hW, hS'⟩
    have hS := hS.call (L := L3) hS'
    repeat (first | refine SemW.run tblOk ?_ | refine jA (by omega) ?_ | refine jB (by omega) ?_ | refine jC (by omega) ?_ | refine jD (by omega) ?_ | refine jE rfl ?_ | refine jF (by omega) ?_ | (refine jG ?_; first | with_reducible (first | refine jH ?_ | refine jI ?_ | refine jJ ?_ | refine jK ?_ | refine jL ?_) | refine jM (by omega) ?_ | refine jN (by omega) ?_ | with_reducible refine jM rfl ?_ | refine jM (by assumption) ?_ | refine jN (by assumption) ?_ | refine jM (by decide) ?_ | refine jN (by decide) ?_) | refine jF (ptr_ok tblOk rfl rfl) ?_ | refine jO (fun _ => by kernel_rfl) ?_ | refine jF (by decide) ?_ | refine hS.ld rfl ?_ | refine hS.ldn rfl ?_ | (refine hS.st rfl rfl ?_; intro _ hS))
    refine hS.al ?_
    intro r4 w12 _ hS
    repeat (first | refine SemW.run tblOk ?_ | refine jA (by omega) ?_ | refine jB (by omega) ?_ | refine jC (by omega) ?_ | refine jD (by omega) ?_ | refine jE rfl ?_ | refine jF (by omega) ?_ | (refine jG ?_; first | with_reducible (first | refine jH ?_ | refine jI ?_ | refine jJ ?_ | refine jK ?_ | refine jL ?_) | refine jM (by omega) ?_ | refine jN (by omega) ?_ | with_reducible refine jM rfl ?_ | refine jM (by assumption) ?_ | refine jN (by assumption) ?_ | refine jM (by decide) ?_ | refine jN (by decide) ?_) | refine jF (ptr_ok tblOk rfl rfl) ?_ | refine jO (fun _ => by kernel_rfl) ?_ | refine jF (by decide) ?_ | refine hS.ld rfl ?_ | refine hS.ldn rfl ?_ | (refine hS.st rfl rfl ?_; intro _ hS))
    refine Cl.mono (Text_spec hW (hS.part (L := L4)) (ss := [row.seats]) (hS.arr (b := r4) (nodup_chunk hS)) (by rw [hsl]; simp only [List.length_append, List.length_singleton]; omega)) ?_
    rintro _ w13 ⟨L5, hW, hS'⟩
    have hS := hS.call (L := L4) hS'
    repeat (first | refine SemW.run tblOk ?_ | refine jA (by omega) ?_ | refine jB (by omega) ?_ | refine jC (by omega) ?_ | refine jD (by omega) ?_ | refine jE rfl ?_ | refine jF (by omega) ?_ | (refine jG ?_; first | with_reducible (first | refine jH ?_ | refine jI ?_ | refine jJ ?_ | refine jK ?_ | refine jL ?_) | refine jM (by omega) ?_ | refine jN (by omega) ?_ | with_reducible refine jM rfl ?_ | refine jM (by assumption) ?_ | refine jN (by assumption) ?_ | refine jM (by decide) ?_ | refine jN (by decide) ?_) | refine jF (ptr_ok tblOk rfl rfl) ?_ | refine jO (fun _ => by kernel_rfl) ?_ | refine jF (by decide) ?_)
    exact ⟨k + 1, ⟨rfl, rfl, rfl, rfl, trivial⟩, ⟨by omega, L5, by rw [hsucc]; simpa [rowB] using hW, hS.sub ((List.sublist_cons_self _ _).trans ((List.sublist_cons_self _ _).trans ((List.sublist_cons_self _ _).trans (List.sublist_cons_self _ _))))⟩, by omega⟩
  · have hke : k = e.rows.length := by omega
    subst hke
    rw [List.take_length] at hW hbl
    repeat (first | refine SemW.run tblOk ?_ | refine jA (by omega) ?_ | refine jB (by omega) ?_ | refine jC (by omega) ?_ | refine jD (by omega) ?_ | refine jE rfl ?_ | refine jF (by omega) ?_ | (refine jG ?_; first | with_reducible (first | refine jH ?_ | refine jI ?_ | refine jJ ?_ | refine jK ?_ | refine jL ?_) | refine jM (by omega) ?_ | refine jN (by omega) ?_ | with_reducible refine jM rfl ?_ | refine jM (by assumption) ?_ | refine jN (by assumption) ?_ | refine jM (by decide) ?_ | refine jN (by decide) ?_) | refine jF (ptr_ok tblOk rfl rfl) ?_ | refine jO (fun _ => by kernel_rfl) ?_ | refine jF (by decide) ?_ | refine hS.ld rfl ?_ | refine hS.ldn rfl ?_ | (refine hS.st rfl rfl ?_; intro _ hS))
    refine Cl.mono (Bytes_spec hW (hS.part (L := L2))) ?_
    rintro _ w7 ⟨rfl, hS'⟩
    repeat (first | refine SemW.run tblOk ?_ | refine jA (by omega) ?_ | refine jB (by omega) ?_ | refine jC (by omega) ?_ | refine jD (by omega) ?_ | refine jE rfl ?_ | refine jF (by omega) ?_ | (refine jG ?_; first | with_reducible (first | refine jH ?_ | refine jI ?_ | refine jJ ?_ | refine jK ?_ | refine jL ?_) | refine jM (by omega) ?_ | refine jN (by omega) ?_ | with_reducible refine jM rfl ?_ | refine jM (by assumption) ?_ | refine jN (by assumption) ?_ | refine jM (by decide) ?_ | refine jN (by decide) ?_) | refine jF (ptr_ok tblOk rfl rfl) ?_ | refine jO (fun _ => by kernel_rfl) ?_ | refine jF (by decide) ?_)
    exact ⟨rfl, (hS.call (L := L2) hS').nil⟩
end Go.Proofs.YthpmmfapolcaiaaGreatDoor

/- Seats compared. -/
namespace Go.Proofs.YthpmmfapolcaiaaGreatDoor
open Go Go.Eng Go.Proofs
theorem eqSeat (a : Int) (c : Nat) (b : Int) (d : Nat) : EqV 2 Tryz.prog T_api_Seat (seatV a c) (seatV b d) (decide (a = b ∧ c = d)) := by
  have h : EqV 2 Tryz.prog T_api_Seat (seatV a c) (seatV b d) (decide (a = b) && (decide ((c : Int) = (d : Int)) && true)) := by
    refine EqV.struct (d := [(T_int, 0), (T_uint8, 1)]) (by kernel_rfl) (by kernel_rfl) (by kernel_rfl) ?_
    refine EqFs.cons (PartIs.one tblOk rfl rfl rfl) (PartIs.one tblOk rfl rfl rfl) (EqV.int tblOk rfl rfl _ _) ?_
    exact EqFs.cons (PartIs.one tblOk rfl rfl rfl) (PartIs.one tblOk rfl rfl rfl) (EqV.int tblOk rfl rfl _ _) EqFs.nil
  have e : decide (a = b ∧ c = d) = (decide (a = b) && (decide ((c : Int) = (d : Int)) && true)) := by
    rw [Bool.eq_iff_iff]; simp; omega
  rw [e]; exact h
end Go.Proofs.YthpmmfapolcaiaaGreatDoor

/- Package rows: the values of flights and passengers. -/
namespace Go.Proofs.YthpmmfapolcaiaaGreatDoor
open Go Go.Eng Go.Proofs
set_option maxHeartbeats 4000000 in
theorem flight_spec {w : World} (f : FlightM) (hf : f.ok) : Cl Tryz.prog f_rows_flight [.agg ⟨flC f⟩] w fun v w' => v = Str (flightB f) ∧ St w [] [] w' := by
  have hS := St.start w
  have hil := ints_len _ hf.head
  unfold flC
  refine en_rows_flight rfl ?_
  repeat (first | refine SemW.run tblOk ?_ | refine jA (by omega) ?_ | refine jB (by omega) ?_ | refine jC (by omega) ?_ | refine jD (by omega) ?_ | refine jE rfl ?_ | refine jF (by omega) ?_ | (refine jG ?_; first | with_reducible (first | refine jH ?_ | refine jI ?_ | refine jJ ?_ | refine jK ?_ | refine jL ?_) | refine jM (by omega) ?_ | refine jN (by omega) ?_ | with_reducible refine jM rfl ?_ | refine jM (by assumption) ?_ | refine jN (by assumption) ?_ | refine jM (by decide) ?_ | refine jN (by decide) ?_) | refine jF (ptr_ok tblOk rfl rfl) ?_ | refine jO (fun _ => by kernel_rfl) ?_ | refine jF (by decide) ?_)
  refine hS.al ?_
  intro b1 w1 _ hS
  repeat (first | refine SemW.run tblOk ?_ | refine jA (by omega) ?_ | refine jB (by omega) ?_ | refine jC (by omega) ?_ | refine jD (by omega) ?_ | refine jE rfl ?_ | refine jF (by omega) ?_ | (refine jG ?_; first | with_reducible (first | refine jH ?_ | refine jI ?_ | refine jJ ?_ | refine jK ?_ | refine jL ?_) | refine jM (by omega) ?_ | refine jN (by omega) ?_ | with_reducible refine jM rfl ?_ | refine jM (by assumption) ?_ | refine jN (by assumption) ?_ | refine jM (by decide) ?_ | refine jN (by decide) ?_) | refine jF (ptr_ok tblOk rfl rfl) ?_ | refine jO (fun _ => by kernel_rfl) ?_ | refine jF (by decide) ?_)
  refine Cl.mono PNew_spec ?_
  rintro _ w2 ⟨pb, L, rfl, hW, hS'⟩
  have hS := hS.callNew hS'
  repeat (first | refine SemW.run tblOk ?_ | refine jA (by omega) ?_ | refine jB (by omega) ?_ | refine jC (by omega) ?_ | refine jD (by omega) ?_ | refine jE rfl ?_ | refine jF (by omega) ?_ | (refine jG ?_; first | with_reducible (first | refine jH ?_ | refine jI ?_ | refine jJ ?_ | refine jK ?_ | refine jL ?_) | refine jM (by omega) ?_ | refine jN (by omega) ?_ | with_reducible refine jM rfl ?_ | refine jM (by assumption) ?_ | refine jN (by assumption) ?_ | refine jM (by decide) ?_ | refine jN (by decide) ?_) | refine jF (ptr_ok tblOk rfl rfl) ?_ | refine jO (fun _ => by kernel_rfl) ?_ | refine jF (by decide) ?_)
  refine hS.al ?_
  intro b3 w3 _ hS
  repeat (first | refine SemW.run tblOk ?_ | refine jA (by omega) ?_ | refine jB (by omega) ?_ | refine jC (by omega) ?_ | refine jD (by omega) ?_ | refine jE rfl ?_ | refine jF (by omega) ?_ | (refine jG ?_; first | with_reducible (first | refine jH ?_ | refine jI ?_ | refine jJ ?_ | refine jK ?_ | refine jL ?_) | refine jM (by omega) ?_ | refine jN (by omega) ?_ | with_reducible refine jM rfl ?_ | refine jM (by assumption) ?_ | refine jN (by assumption) ?_ | refine jM (by decide) ?_ | refine jN (by decide) ?_) | refine jF (ptr_ok tblOk rfl rfl) ?_ | refine jO (fun _ => by kernel_rfl) ?_ | refine jF (by decide) ?_ | refine hS.ld rfl ?_ | refine hS.ldn rfl ?_ | (refine hS.st rfl rfl ?_; intro _ hS))
  refine hS.al ?_
  intro r w4 _ hS
  repeat (first | refine SemW.run tblOk ?_ | refine jA (by omega) ?_ | refine jB (by omega) ?_ | refine jC (by omega) ?_ | refine jD (by omega) ?_ | refine jE rfl ?_ | refine jF (by omega) ?_ | (refine jG ?_; first | with_reducible (first | refine jH ?_ | refine jI ?_ | refine jJ ?_ | refine jK ?_ | refine jL ?_) | refine jM (by omega) ?_ | refine jN (by omega) ?_ | with_reducible refine jM rfl ?_ | refine jM (by assumption) ?_ | refine jN (by assumption) ?_ | refine jM (by decide) ?_ | refine jN (by decide) ?_) | refine jF (ptr_ok tblOk rfl rfl) ?_ | refine jO (fun _ => by kernel_rfl) ?_ | refine jF (by decide) ?_ | refine hS.ld rfl ?_ | refine hS.ldn rfl ?_ | (refine hS.st rfl rfl ?_; intro _ hS))
  refine Cl.mono (Int_spec hW (hS.part (L := L)) (zs := [f.equip, f.phase, f.seq]) (hS.arr (b := r) (nodup_chunk hS)) hf.head (by simp) (by simp)) ?_
  rintro _ w5 ⟨L1, hW, hS'⟩
  have hS := hS.call (L := L) hS'
  have hS : St w [] ((b3, .cells ⟨[ptr pb]⟩ T_rows_writer (0, 0)) :: (L1 ++ [(b1, .cells ⟨flC f⟩ T_api_Flight (0, 0))])) w5 := hS.sub (List.sublist_cons_self _ _)
  clear hS'
  unfold flC at hS
  repeat (first | refine SemW.run tblOk ?_ | refine jA (by omega) ?_ | refine jB (by omega) ?_ | refine jC (by omega) ?_ | refine jD (by omega) ?_ | refine jE rfl ?_ | refine jF (by omega) ?_ | (refine jG ?_; first | with_reducible (first | refine jH ?_ | refine jI ?_ | refine jJ ?_ | refine jK ?_ | refine jL ?_) | refine jM (by omega) ?_ | refine jN (by omega) ?_ | with_reducible refine jM rfl ?_ | refine jM (by assumption) ?_ | refine jN (by assumption) ?_ | refine jM (by decide) ?_ | refine jN (by decide) ?_) | refine jF (ptr_ok tblOk rfl rfl) ?_ | refine jO (fun _ => by kernel_rfl) ?_ | refine jF (by decide) ?_)
  refine SemW.draw tblOk mixed (fun w' => St w [] ((b3, .cells ⟨[ptr pb]⟩ T_rows_writer (0, 0)) :: (L1 ++ [(b1, .cells ⟨flC f⟩ T_api_Flight (0, 0))])) w') [4] [0, 1, 2, 3, 4] (by kernel_rfl) hS.drew ?_
  have hS := hS.drew
  generalize w5.drew = w5 at hS
  repeat (first | refine SemW.run tblOk ?_ | refine jA (by omega) ?_ | refine jB (by omega) ?_ | refine jC (by omega) ?_ | refine jD (by omega) ?_ | refine jE rfl ?_ | refine jF (by omega) ?_ | (refine jG ?_; first | with_reducible (first | refine jH ?_ | refine jI ?_ | refine jJ ?_ | refine jK ?_ | refine jL ?_) | refine jM (by omega) ?_ | refine jN (by omega) ?_ | with_reducible refine jM rfl ?_ | refine jM (by assumption) ?_ | refine jN (by assumption) ?_ | refine jM (by decide) ?_ | refine jN (by decide) ?_) | refine jF (ptr_ok tblOk rfl rfl) ?_ | refine jO (fun _ => by kernel_rfl) ?_ | refine jF (by decide) ?_ | refine hS.ldC rfl ?_ | refine hS.ldnC rfl ?_)
  refine sliceArrA tblOk rfl rfl ?_
  repeat (first | refine SemW.run tblOk ?_ | refine jA (by omega) ?_ | refine jB (by omega) ?_ | refine jC (by omega) ?_ | refine jD (by omega) ?_ | refine jE rfl ?_ | refine jF (by omega) ?_ | (refine jG ?_; first | with_reducible (first | refine jH ?_ | refine jI ?_ | refine jJ ?_ | refine jK ?_ | refine jL ?_) | refine jM (by omega) ?_ | refine jN (by omega) ?_ | with_reducible refine jM rfl ?_ | refine jM (by assumption) ?_ | refine jN (by assumption) ?_ | refine jM (by decide) ?_ | refine jN (by decide) ?_) | refine jF (ptr_ok tblOk rfl rfl) ?_ | refine jO (fun _ => by kernel_rfl) ?_ | refine jF (by decide) ?_ | refine hS.ldC rfl ?_ | refine hS.ldnC rfl ?_)
  refine Cl.mono (Int_spec hW (hS.part (L := L1)) (zs := [f.l0, f.l1, f.l2, f.l3]) (hS.arrAt (b := b1) (off := 4) rfl (nodup_last hS)) hf.limits (by simp) (by simp only [List.length_append, List.length_cons, List.length_nil] at hil ⊢; omega)) ?_
  rintro _ w6 ⟨L2, hW, hS'⟩
  have hS := hS.call (L := L1) hS'
  repeat (first | refine SemW.run tblOk ?_ | refine jA (by omega) ?_ | refine jB (by omega) ?_ | refine jC (by omega) ?_ | refine jD (by omega) ?_ | refine jE rfl ?_ | refine jF (by omega) ?_ | (refine jG ?_; first | with_reducible (first | refine jH ?_ | refine jI ?_ | refine jJ ?_ | refine jK ?_ | refine jL ?_) | refine jM (by omega) ?_ | refine jN (by omega) ?_ | with_reducible refine jM rfl ?_ | refine jM (by assumption) ?_ | refine jN (by assumption) ?_ | refine jM (by decide) ?_ | refine jN (by decide) ?_) | refine jF (ptr_ok tblOk rfl rfl) ?_ | refine jO (fun _ => by kernel_rfl) ?_ | refine jF (by decide) ?_ | refine hS.ld rfl ?_ | refine hS.ldn rfl ?_ | (refine hS.st rfl rfl ?_; intro _ hS))
  refine Cl.mono (Bytes_spec hW (hS.part (L := L2))) ?_
  rintro _ w7 ⟨rfl, hS'⟩
  repeat (first | refine SemW.run tblOk ?_ | refine jA (by omega) ?_ | refine jB (by omega) ?_ | refine jC (by omega) ?_ | refine jD (by omega) ?_ | refine jE rfl ?_ | refine jF (by omega) ?_ | (refine jG ?_; first | with_reducible (first | refine jH ?_ | refine jI ?_ | refine jJ ?_ | refine jK ?_ | refine jL ?_) | refine jM (by omega) ?_ | refine jN (by omega) ?_ | with_reducible refine jM rfl ?_ | refine jM (by assumption) ?_ | refine jN (by assumption) ?_ | refine jM (by decide) ?_ | refine jN (by decide) ?_) | refine jF (ptr_ok tblOk rfl rfl) ?_ | refine jO (fun _ => by kernel_rfl) ?_ | refine jF (by decide) ?_)
  exact ⟨rfl, (hS.call (L := L2) hS').nil⟩
set_option maxHeartbeats 4000000 in
theorem pax_spec {w : World} (p : PaxM) (hp : p.ok) : Cl Tryz.prog f_rows_pax [.agg ⟨paxC p⟩] w fun v w' => v = Str (paxB p) ∧ St w [] [] w' := by
  have hS := St.start w
  have hil := ints_len _ hp.head
  have hml := numB_len10 (marksN [p.fit, p.infant, p.vol, p.stb]) (by have := marks4_lt p.fit p.infant p.vol p.stb; omega)
  simp only [List.length_cons, List.length_nil] at hil
  have hpc := hp.c
  unfold paxC
  refine en_rows_pax rfl ?_
  repeat (first | refine SemW.run tblOk ?_ | refine jA (by omega) ?_ | refine jB (by omega) ?_ | refine jC (by omega) ?_ | refine jD (by omega) ?_ | refine jE rfl ?_ | refine jF (by omega) ?_ | (refine jG ?_; first | with_reducible (first | refine jH ?_ | refine jI ?_ | refine jJ ?_ | refine jK ?_ | refine jL ?_) | refine jM (by omega) ?_ | refine jN (by omega) ?_ | with_reducible refine jM rfl ?_ | refine jM (by assumption) ?_ | refine jN (by assumption) ?_ | refine jM (by decide) ?_ | refine jN (by decide) ?_) | refine jF (ptr_ok tblOk rfl rfl) ?_ | refine jO (fun _ => by kernel_rfl) ?_ | refine jF (by decide) ?_)
  refine hS.al ?_
  intro b1 w1 _ hS
  repeat (first | refine SemW.run tblOk ?_ | refine jA (by omega) ?_ | refine jB (by omega) ?_ | refine jC (by omega) ?_ | refine jD (by omega) ?_ | refine jE rfl ?_ | refine jF (by omega) ?_ | (refine jG ?_; first | with_reducible (first | refine jH ?_ | refine jI ?_ | refine jJ ?_ | refine jK ?_ | refine jL ?_) | refine jM (by omega) ?_ | refine jN (by omega) ?_ | with_reducible refine jM rfl ?_ | refine jM (by assumption) ?_ | refine jN (by assumption) ?_ | refine jM (by decide) ?_ | refine jN (by decide) ?_) | refine jF (ptr_ok tblOk rfl rfl) ?_ | refine jO (fun _ => by kernel_rfl) ?_ | refine jF (by decide) ?_)
  refine Cl.mono PNew_spec ?_
  rintro _ w2 ⟨pb, L, rfl, hW, hS'⟩
  have hS := hS.callNew hS'
  repeat (first | refine SemW.run tblOk ?_ | refine jA (by omega) ?_ | refine jB (by omega) ?_ | refine jC (by omega) ?_ | refine jD (by omega) ?_ | refine jE rfl ?_ | refine jF (by omega) ?_ | (refine jG ?_; first | with_reducible (first | refine jH ?_ | refine jI ?_ | refine jJ ?_ | refine jK ?_ | refine jL ?_) | refine jM (by omega) ?_ | refine jN (by omega) ?_ | with_reducible refine jM rfl ?_ | refine jM (by assumption) ?_ | refine jN (by assumption) ?_ | refine jM (by decide) ?_ | refine jN (by decide) ?_) | refine jF (ptr_ok tblOk rfl rfl) ?_ | refine jO (fun _ => by kernel_rfl) ?_ | refine jF (by decide) ?_)
  refine hS.al ?_
  intro b3 w3 _ hS
  repeat (first | refine SemW.run tblOk ?_ | refine jA (by omega) ?_ | refine jB (by omega) ?_ | refine jC (by omega) ?_ | refine jD (by omega) ?_ | refine jE rfl ?_ | refine jF (by omega) ?_ | (refine jG ?_; first | with_reducible (first | refine jH ?_ | refine jI ?_ | refine jJ ?_ | refine jK ?_ | refine jL ?_) | refine jM (by omega) ?_ | refine jN (by omega) ?_ | with_reducible refine jM rfl ?_ | refine jM (by assumption) ?_ | refine jN (by assumption) ?_ | refine jM (by decide) ?_ | refine jN (by decide) ?_) | refine jF (ptr_ok tblOk rfl rfl) ?_ | refine jO (fun _ => by kernel_rfl) ?_ | refine jF (by decide) ?_ | refine hS.ld rfl ?_ | refine hS.ldn rfl ?_ | (refine hS.st rfl rfl ?_; intro _ hS))
  refine hS.al ?_
  intro r w4 _ hS
  repeat (first | refine SemW.run tblOk ?_ | refine jA (by omega) ?_ | refine jB (by omega) ?_ | refine jC (by omega) ?_ | refine jD (by omega) ?_ | refine jE rfl ?_ | refine jF (by omega) ?_ | (refine jG ?_; first | with_reducible (first | refine jH ?_ | refine jI ?_ | refine jJ ?_ | refine jK ?_ | refine jL ?_) | refine jM (by omega) ?_ | refine jN (by omega) ?_ | with_reducible refine jM rfl ?_ | refine jM (by assumption) ?_ | refine jN (by assumption) ?_ | refine jM (by decide) ?_ | refine jN (by decide) ?_) | refine jF (ptr_ok tblOk rfl rfl) ?_ | refine jO (fun _ => by kernel_rfl) ?_ | refine jF (by decide) ?_ | refine hS.ld rfl ?_ | refine hS.ldn rfl ?_ | (refine hS.st rfl rfl ?_; intro _ hS))
  refine Cl.mono (Int_spec hW (hS.part (L := L)) (zs := [p.flight, p.cab, p.cls, p.status, p.tick, p.pass]) (hS.arr (b := r) (nodup_chunk hS)) hp.head (by simp) (by simp)) ?_
  rintro _ w5 ⟨L1, hW, hS'⟩
  have hS := hS.call (L := L) hS'
  have hS := hS.sub (List.sublist_cons_self _ _)
  repeat (first | refine SemW.run tblOk ?_ | refine jA (by omega) ?_ | refine jB (by omega) ?_ | refine jC (by omega) ?_ | refine jD (by omega) ?_ | refine jE rfl ?_ | refine jF (by omega) ?_ | (refine jG ?_; first | with_reducible (first | refine jH ?_ | refine jI ?_ | refine jJ ?_ | refine jK ?_ | refine jL ?_) | refine jM (by omega) ?_ | refine jN (by omega) ?_ | with_reducible refine jM rfl ?_ | refine jM (by assumption) ?_ | refine jN (by assumption) ?_ | refine jM (by decide) ?_ | refine jN (by decide) ?_) | refine jF (ptr_ok tblOk rfl rfl) ?_ | refine jO (fun _ => by kernel_rfl) ?_ | refine jF (by decide) ?_ | refine hS.ld rfl ?_ | refine hS.ldn rfl ?_ | (refine hS.st rfl rfl ?_; intro _ hS))
  refine hS.al ?_
  intro r2 w6 _ hS
  repeat (first | refine SemW.run tblOk ?_ | refine jA (by omega) ?_ | refine jB (by omega) ?_ | refine jC (by omega) ?_ | refine jD (by omega) ?_ | refine jE rfl ?_ | refine jF (by omega) ?_ | (refine jG ?_; first | with_reducible (first | refine jH ?_ | refine jI ?_ | refine jJ ?_ | refine jK ?_ | refine jL ?_) | refine jM (by omega) ?_ | refine jN (by omega) ?_ | with_reducible refine jM rfl ?_ | refine jM (by assumption) ?_ | refine jN (by assumption) ?_ | refine jM (by decide) ?_ | refine jN (by decide) ?_) | refine jF (ptr_ok tblOk rfl rfl) ?_ | refine jO (fun _ => by kernel_rfl) ?_ | refine jF (by decide) ?_ | refine hS.ld rfl ?_ | refine hS.ldn rfl ?_ | (refine hS.st rfl rfl ?_; intro _ hS))
  refine Cl.mono (marks_spec hW (hS.part (L := L1)) (l := [p.fit, p.infant, p.vol, p.stb]) (hS.arr (b := r2) (nodup_chunk hS)) (by simp) (by rw [List.nil_append]; omega)) ?_
  rintro _ w7 ⟨L2, hW, hS'⟩
  have hS := hS.call (L := L1) hS'
  have hS := hS.sub (List.sublist_cons_self _ _)
  repeat (first | refine SemW.run tblOk ?_ | refine jA (by omega) ?_ | refine jB (by omega) ?_ | refine jC (by omega) ?_ | refine jD (by omega) ?_ | refine jE rfl ?_ | refine jF (by omega) ?_ | (refine jG ?_; first | with_reducible (first | refine jH ?_ | refine jI ?_ | refine jJ ?_ | refine jK ?_ | refine jL ?_) | refine jM (by omega) ?_ | refine jN (by omega) ?_ | with_reducible refine jM rfl ?_ | refine jM (by assumption) ?_ | refine jN (by assumption) ?_ | refine jM (by decide) ?_ | refine jN (by decide) ?_) | refine jF (ptr_ok tblOk rfl rfl) ?_ | refine jO (fun _ => by kernel_rfl) ?_ | refine jF (by decide) ?_ | refine hS.ld rfl ?_ | refine hS.ldn rfl ?_ | (refine hS.st rfl rfl ?_; intro _ hS))
  refine neqAgg (n := 2) (by omega) (by kernel_rfl) (eqSeat p.num p.c 0 0) ?_
  have hsl : sumLen [seatB p.num p.c] = (seatB p.num p.c).length := by simp [sumLen]
  have hsb := seatB_len p.num p.c
  by_cases hz : p.num = 0 ∧ p.c = 0
  · have hz1 : decide (p.num = 0 ∧ p.c = 0) = true := decide_eq_true hz
    have hz2 : seatB p.num p.c = [] := if_pos hz
    rw [hz1, Bool.not_true]
    have hem : Value.string { data := #[] } = Str [] := rfl
    repeat (first | refine SemW.run tblOk ?_ | refine jA (by omega) ?_ | refine jB (by omega) ?_ | refine jC (by omega) ?_ | refine jD (by omega) ?_ | refine jE rfl ?_ | refine jF (by omega) ?_ | (refine jG ?_; first | with_reducible (first | refine jH ?_ | refine jI ?_ | refine jJ ?_ | refine jK ?_ | refine jL ?_) | refine jM (by omega) ?_ | refine jN (by omega) ?_ | with_reducible refine jM rfl ?_ | refine jM (by assumption) ?_ | refine jN (by assumption) ?_ | refine jM (by decide) ?_ | refine jN (by decide) ?_) | refine jF (ptr_ok tblOk rfl rfl) ?_ | refine jO (fun _ => by kernel_rfl) ?_ | refine jF (by decide) ?_ | refine hS.ld rfl ?_ | refine hS.ldn rfl ?_ | (refine hS.st rfl rfl ?_; intro _ hS))
    refine hS.al ?_
    intro r3 w9 _ hS
    repeat (first | refine SemW.run tblOk ?_ | refine jA (by omega) ?_ | refine jB (by omega) ?_ | refine jC (by omega) ?_ | refine jD (by omega) ?_ | refine jE rfl ?_ | refine jF (by omega) ?_ | (refine jG ?_; first | with_reducible (first | refine jH ?_ | refine jI ?_ | refine jJ ?_ | refine jK ?_ | refine jL ?_) | refine jM (by omega) ?_ | refine jN (by omega) ?_ | with_reducible refine jM rfl ?_ | refine jM (by assumption) ?_ | refine jN (by assumption) ?_ | refine jM (by decide) ?_ | refine jN (by decide) ?_) | refine jF (ptr_ok tblOk rfl rfl) ?_ | refine jO (fun _ => by kernel_rfl) ?_ | refine jF (by decide) ?_ | refine hS.ld rfl ?_ | refine hS.ldn rfl ?_ | (refine hS.st rfl rfl ?_; intro _ hS))
    refine Cl.mono (Text_spec hW (hS.part (L := L2)) (ss := [seatB p.num p.c]) (by rw [hz2]; exact hS.arr (b := r3) (nodup_chunk hS)) (by rw [hsl]; simp only [List.nil_append, List.length_append, List.length_singleton]; omega)) ?_
    rintro _ w10 ⟨L3, hW, hS'⟩
    have hS := hS.call (L := L2) hS'
    repeat (first | refine SemW.run tblOk ?_ | refine jA (by omega) ?_ | refine jB (by omega) ?_ | refine jC (by omega) ?_ | refine jD (by omega) ?_ | refine jE rfl ?_ | refine jF (by omega) ?_ | (refine jG ?_; first | with_reducible (first | refine jH ?_ | refine jI ?_ | refine jJ ?_ | refine jK ?_ | refine jL ?_) | refine jM (by omega) ?_ | refine jN (by omega) ?_ | with_reducible refine jM rfl ?_ | refine jM (by assumption) ?_ | refine jN (by assumption) ?_ | refine jM (by decide) ?_ | refine jN (by decide) ?_) | refine jF (ptr_ok tblOk rfl rfl) ?_ | refine jO (fun _ => by kernel_rfl) ?_ | refine jF (by decide) ?_ | refine hS.ld rfl ?_ | refine hS.ldn rfl ?_ | (refine hS.st rfl rfl ?_; intro _ hS))
    refine Cl.mono (Bytes_spec hW (hS.part (L := L3))) ?_
    rintro _ w11 ⟨rfl, hS'⟩
    repeat (first | refine SemW.run tblOk ?_ | refine jA (by omega) ?_ | refine jB (by omega) ?_ | refine jC (by omega) ?_ | refine jD (by omega) ?_ | refine jE rfl ?_ | refine jF (by omega) ?_ | (refine jG ?_; first | with_reducible (first | refine jH ?_ | refine jI ?_ | refine jJ ?_ | refine jK ?_ | refine jL ?_) | refine jM (by omega) ?_ | refine jN (by omega) ?_ | with_reducible refine jM rfl ?_ | refine jM (by assumption) ?_ | refine jN (by assumption) ?_ | refine jM (by decide) ?_ | refine jN (by decide) ?_) | refine jF (ptr_ok tblOk rfl rfl) ?_ | refine jO (fun _ => by kernel_rfl) ?_ | refine jF (by decide) ?_)
    refine ⟨?_, (hS.call (L := L3) hS').nil⟩
    simp [paxB, textsB]
  · have hz1 : decide (p.num = 0 ∧ p.c = 0) = false := decide_eq_false hz
    have hz2 : seatB p.num p.c = labelB p.num p.c := if_neg hz
    rw [hz1, Bool.not_false]
    repeat (first | refine SemW.run tblOk ?_ | refine jA (by omega) ?_ | refine jB (by omega) ?_ | refine jC (by omega) ?_ | refine jD (by omega) ?_ | refine jE rfl ?_ | refine jF (by omega) ?_ | (refine jG ?_; first | with_reducible (first | refine jH ?_ | refine jI ?_ | refine jJ ?_ | refine jK ?_ | refine jL ?_) | refine jM (by omega) ?_ | refine jN (by omega) ?_ | with_reducible refine jM rfl ?_ | refine jM (by assumption) ?_ | refine jN (by assumption) ?_ | refine jM (by decide) ?_ | refine jN (by decide) ?_) | refine jF (ptr_ok tblOk rfl rfl) ?_ | refine jO (fun _ => by kernel_rfl) ?_ | refine jF (by decide) ?_ | refine hS.ld rfl ?_ | refine hS.ldn rfl ?_ | (refine hS.st rfl rfl ?_; intro _ hS))
    refine Cl.mono (Label_spec p.num p.c hpc) ?_
    rintro _ w8 ⟨rfl, hS'⟩
    have hS := hS.call0 hS'
    repeat (first | refine SemW.run tblOk ?_ | refine jA (by omega) ?_ | refine jB (by omega) ?_ | refine jC (by omega) ?_ | refine jD (by omega) ?_ | refine jE rfl ?_ | refine jF (by omega) ?_ | (refine jG ?_; first | with_reducible (first | refine jH ?_ | refine jI ?_ | refine jJ ?_ | refine jK ?_ | refine jL ?_) | refine jM (by omega) ?_ | refine jN (by omega) ?_ | with_reducible refine jM rfl ?_ | refine jM (by assumption) ?_ | refine jN (by assumption) ?_ | refine jM (by decide) ?_ | refine jN (by decide) ?_) | refine jF (ptr_ok tblOk rfl rfl) ?_ | refine jO (fun _ => by kernel_rfl) ?_ | refine jF (by decide) ?_ | refine hS.ld rfl ?_ | refine hS.ldn rfl ?_ | (refine hS.st rfl rfl ?_; intro _ hS))
    refine hS.al ?_
    intro r3 w9 _ hS
    repeat (first | refine SemW.run tblOk ?_ | refine jA (by omega) ?_ | refine jB (by omega) ?_ | refine jC (by omega) ?_ | refine jD (by omega) ?_ | refine jE rfl ?_ | refine jF (by omega) ?_ | (refine jG ?_; first | with_reducible (first | refine jH ?_ | refine jI ?_ | refine jJ ?_ | refine jK ?_ | refine jL ?_) | refine jM (by omega) ?_ | refine jN (by omega) ?_ | with_reducible refine jM rfl ?_ | refine jM (by assumption) ?_ | refine jN (by assumption) ?_ | refine jM (by decide) ?_ | refine jN (by decide) ?_) | refine jF (ptr_ok tblOk rfl rfl) ?_ | refine jO (fun _ => by kernel_rfl) ?_ | refine jF (by decide) ?_ | refine hS.ld rfl ?_ | refine hS.ldn rfl ?_ | (refine hS.st rfl rfl ?_; intro _ hS))
    refine Cl.mono (Text_spec hW (hS.part (L := L2)) (ss := [seatB p.num p.c]) (by rw [hz2]; exact hS.arr (b := r3) (nodup_chunk hS)) (by rw [hsl]; simp only [List.nil_append, List.length_append, List.length_singleton]; omega)) ?_
    rintro _ w10 ⟨L3, hW, hS'⟩
    have hS := hS.call (L := L2) hS'
    repeat (first | refine SemW.run tblOk ?_ | refine jA (by omega) ?_ | refine jB (by omega) ?_ | refine jC (by omega) ?_ | refine jD (by omega) ?_ | refine jE rfl ?_ | refine jF (by omega) ?_ | (refine jG ?_; first | with_reducible (first | refine jH ?_ | refine jI ?_ | refine jJ ?_ | refine jK ?_ | refine jL ?_) | refine jM (by omega) ?_ | refine jN (by omega) ?_ | with_reducible refine jM rfl ?_ | refine jM (by assumption) ?_ | refine jN (by assumption) ?_ | refine jM (by decide) ?_ | refine jN (by decide) ?_) | refine jF (ptr_ok tblOk rfl rfl) ?_ | refine jO (fun _ => by kernel_rfl) ?_ | refine jF (by decide) ?_ | refine hS.ld rfl ?_ | refine hS.ldn rfl ?_ | (refine hS.st rfl rfl ?_; intro _ hS))
    refine Cl.mono (Bytes_spec hW (hS.part (L := L3))) ?_
    rintro _ w11 ⟨rfl, hS'⟩
    repeat (first | refine SemW.run tblOk ?_ | refine jA (by omega) ?_ | refine jB (by omega) ?_ | refine jC (by omega) ?_ | refine jD (by omega) ?_ | refine jE rfl ?_ | refine jF (by omega) ?_ | (refine jG ?_; first | with_reducible (first | refine jH ?_ | refine jI ?_ | refine jJ ?_ | refine jK ?_ | refine jL ?_) | refine jM (by omega) ?_ | refine jN (by omega) ?_ | with_reducible refine jM rfl ?_ | refine jM (by assumption) ?_ | refine jN (by assumption) ?_ | refine jM (by decide) ?_ | refine jN (by decide) ?_) | refine jF (ptr_ok tblOk rfl rfl) ?_ | refine jO (fun _ => by kernel_rfl) ?_ | refine jF (by decide) ?_)
    refine ⟨?_, (hS.call (L := L3) hS').nil⟩
    simp [paxB, textsB]
end Go.Proofs.YthpmmfapolcaiaaGreatDoor

/- Package rows: whether numbers rise; inForm. -/
namespace Go.Proofs.YthpmmfapolcaiaaGreatDoor
open Go Go.Eng Go.Proofs
def Rises (l : List Int) : Prop := ∀ (i : Nat) (h : i + 1 < l.length), l[i] < l[i + 1]
theorem id_1_spec {w : World} (n : Int) (v : Value) : Cl Tryz.prog f_rows_inForm_1 [.agg ⟨[.int .i64 n, v]⟩] w fun r w' => r = .int .i64 n ∧ St w [] [] w' := by
  have hS := St.start w
  refine en_rows_inForm_1 rfl ?_
  repeat (first | refine SemW.run tblOk ?_ | refine jA (by omega) ?_ | refine jB (by omega) ?_ | refine jC (by omega) ?_ | refine jD (by omega) ?_ | refine jE rfl ?_ | refine jF (by omega) ?_ | (refine jG ?_; first | with_reducible (first | refine jH ?_ | refine jI ?_ | refine jJ ?_ | refine jK ?_ | refine jL ?_) | refine jM (by omega) ?_ | refine jN (by omega) ?_ | with_reducible refine jM rfl ?_ | refine jM (by assumption) ?_ | refine jN (by assumption) ?_ | refine jM (by decide) ?_ | refine jN (by decide) ?_) | refine jF (ptr_ok tblOk rfl rfl) ?_ | refine jO (fun _ => by kernel_rfl) ?_ | refine jF (by decide) ?_)
  refine hS.al ?_
  intro b w1 _ hS
  repeat (first | refine SemW.run tblOk ?_ | refine jA (by omega) ?_ | refine jB (by omega) ?_ | refine jC (by omega) ?_ | refine jD (by omega) ?_ | refine jE rfl ?_ | refine jF (by omega) ?_ | (refine jG ?_; first | with_reducible (first | refine jH ?_ | refine jI ?_ | refine jJ ?_ | refine jK ?_ | refine jL ?_) | refine jM (by omega) ?_ | refine jN (by omega) ?_ | with_reducible refine jM rfl ?_ | refine jM (by assumption) ?_ | refine jN (by assumption) ?_ | refine jM (by decide) ?_ | refine jN (by decide) ?_) | refine jF (ptr_ok tblOk rfl rfl) ?_ | refine jO (fun _ => by kernel_rfl) ?_ | refine jF (by decide) ?_ | refine hS.ld rfl ?_ | refine hS.ldn rfl ?_ | (refine hS.st rfl rfl ?_; intro _ hS))
  exact ⟨rfl, hS.nil⟩
theorem id_2_spec {w : World} (f : FlightM) : Cl Tryz.prog f_rows_inForm_2 [.agg ⟨flC f⟩] w fun r w' => r = .int .i64 f.id ∧ St w [] [] w' := by
  have hS := St.start w
  unfold flC
  refine en_rows_inForm_2 rfl ?_
  repeat (first | refine SemW.run tblOk ?_ | refine jA (by omega) ?_ | refine jB (by omega) ?_ | refine jC (by omega) ?_ | refine jD (by omega) ?_ | refine jE rfl ?_ | refine jF (by omega) ?_ | (refine jG ?_; first | with_reducible (first | refine jH ?_ | refine jI ?_ | refine jJ ?_ | refine jK ?_ | refine jL ?_) | refine jM (by omega) ?_ | refine jN (by omega) ?_ | with_reducible refine jM rfl ?_ | refine jM (by assumption) ?_ | refine jN (by assumption) ?_ | refine jM (by decide) ?_ | refine jN (by decide) ?_) | refine jF (ptr_ok tblOk rfl rfl) ?_ | refine jO (fun _ => by kernel_rfl) ?_ | refine jF (by decide) ?_)
  refine hS.al ?_
  intro b w1 _ hS
  repeat (first | refine SemW.run tblOk ?_ | refine jA (by omega) ?_ | refine jB (by omega) ?_ | refine jC (by omega) ?_ | refine jD (by omega) ?_ | refine jE rfl ?_ | refine jF (by omega) ?_ | (refine jG ?_; first | with_reducible (first | refine jH ?_ | refine jI ?_ | refine jJ ?_ | refine jK ?_ | refine jL ?_) | refine jM (by omega) ?_ | refine jN (by omega) ?_ | with_reducible refine jM rfl ?_ | refine jM (by assumption) ?_ | refine jN (by assumption) ?_ | refine jM (by decide) ?_ | refine jN (by decide) ?_) | refine jF (ptr_ok tblOk rfl rfl) ?_ | refine jO (fun _ => by kernel_rfl) ?_ | refine jF (by decide) ?_ | refine hS.ld rfl ?_ | refine hS.ldn rfl ?_ | (refine hS.st rfl rfl ?_; intro _ hS))
  exact ⟨rfl, hS.nil⟩
theorem id_3_spec {w : World} (f : PaxM) : Cl Tryz.prog f_rows_inForm_3 [.agg ⟨paxC f⟩] w fun r w' => r = .int .i64 f.id ∧ St w [] [] w' := by
  have hS := St.start w
  unfold paxC
  refine en_rows_inForm_3 rfl ?_
  repeat (first | refine SemW.run tblOk ?_ | refine jA (by omega) ?_ | refine jB (by omega) ?_ | refine jC (by omega) ?_ | refine jD (by omega) ?_ | refine jE rfl ?_ | refine jF (by omega) ?_ | (refine jG ?_; first | with_reducible (first | refine jH ?_ | refine jI ?_ | refine jJ ?_ | refine jK ?_ | refine jL ?_) | refine jM (by omega) ?_ | refine jN (by omega) ?_ | with_reducible refine jM rfl ?_ | refine jM (by assumption) ?_ | refine jN (by assumption) ?_ | refine jM (by decide) ?_ | refine jN (by decide) ?_) | refine jF (ptr_ok tblOk rfl rfl) ?_ | refine jO (fun _ => by kernel_rfl) ?_ | refine jF (by decide) ?_)
  refine hS.al ?_
  intro b w1 _ hS
  repeat (first | refine SemW.run tblOk ?_ | refine jA (by omega) ?_ | refine jB (by omega) ?_ | refine jC (by omega) ?_ | refine jD (by omega) ?_ | refine jE rfl ?_ | refine jF (by omega) ?_ | (refine jG ?_; first | with_reducible (first | refine jH ?_ | refine jI ?_ | refine jJ ?_ | refine jK ?_ | refine jL ?_) | refine jM (by omega) ?_ | refine jN (by omega) ?_ | with_reducible refine jM rfl ?_ | refine jM (by assumption) ?_ | refine jN (by assumption) ?_ | refine jM (by decide) ?_ | refine jN (by decide) ?_) | refine jF (ptr_ok tblOk rfl rfl) ?_ | refine jO (fun _ => by kernel_rfl) ?_ | refine jF (by decide) ?_ | refine hS.ld rfl ?_ | refine hS.ldn rfl ?_ | (refine hS.st rfl rfl ?_; intro _ hS))
  exact ⟨rfl, hS.nil⟩
set_option maxHeartbeats 4000000 in
theorem rising_Equip_spec {w : World} {a : Option Addr} {n cap : Nat} {xs : List EquipM} (hn : n = xs.length) (hR : RSl 2 REquip w [.slice a n cap] xs) (hlen : n ≤ 8388608) :
    Cl Tryz.prog f_rows_rising_api_Equip [.slice a n cap, .func (.func f_rows_inForm_1) #[] #[]] w fun v w' => (∃ bv : Bool, v = .bool bv ∧ (bv = true ↔ Rises (xs.map (fun x => x.id)))) ∧ St w [] [] w' := by
  have hS := St.start w
  subst hn
  refine en_rows_rising_api_Equip rfl ?_
  repeat (first | refine SemW.run tblOk ?_ | refine jA (by omega) ?_ | refine jB (by omega) ?_ | refine jC (by omega) ?_ | refine jD (by omega) ?_ | refine jE rfl ?_ | refine jF (by omega) ?_ | (refine jG ?_; first | with_reducible (first | refine jH ?_ | refine jI ?_ | refine jJ ?_ | refine jK ?_ | refine jL ?_) | refine jM (by omega) ?_ | refine jN (by omega) ?_ | with_reducible refine jM rfl ?_ | refine jM (by assumption) ?_ | refine jN (by assumption) ?_ | refine jM (by decide) ?_ | refine jN (by decide) ?_) | refine jF (ptr_ok tblOk rfl rfl) ?_ | refine jO (fun _ => by kernel_rfl) ?_ | refine jF (by decide) ?_)
  refine SemW.loop (fun k : Nat => [(0, .slice a xs.length cap), (1, .func (.func f_rows_inForm_1) #[] #[]), (5, .int .i64 ((k + 1 : Nat) : Int))])
    (fun k w' => (∀ i (h1 : i + 1 < k + 1) (h2 : i + 1 < xs.length), xs[i].id < xs[i + 1].id) ∧ St w [] [] w') (fun k => xs.length - k) 0
    ⟨rfl, rfl, rfl, trivial⟩ ⟨fun i h => by omega, hS⟩ ?_
  clear hS
  rintro k w1 ⟨hlt, hS⟩
  by_cases hk : k + 1 < xs.length
  · obtain ⟨g, off, cs1, rfl, hr1, hld1⟩ := RSl.ldnC hR (show k < xs.length by omega)
    obtain ⟨g', off', cs2, hg', hr2, hld2⟩ := RSl.ldnC hR hk
    simp only [Option.some.injEq, Addr.mk.injEq, and_true] at hg'
    obtain ⟨rfl, rfl⟩ := hg'
    obtain ⟨v1, rfl, -⟩ := hr1
    obtain ⟨v2, rfl, -⟩ := hr2
    repeat (first | refine SemW.run tblOk ?_ | refine jA (by omega) ?_ | refine jB (by omega) ?_ | refine jC (by omega) ?_ | refine jD (by omega) ?_ | refine jE rfl ?_ | refine jF (by omega) ?_ | (refine jG ?_; first | with_reducible (first | refine jH ?_ | refine jI ?_ | refine jJ ?_ | refine jK ?_ | refine jL ?_) | refine jM (by omega) ?_ | refine jN (by omega) ?_ | with_reducible refine jM rfl ?_ | refine jM (by assumption) ?_ | refine jN (by assumption) ?_ | refine jM (by decide) ?_ | refine jN (by decide) ?_) | refine jF (ptr_ok tblOk rfl rfl) ?_ | refine jO (fun _ => by kernel_rfl) ?_ | refine jF (by decide) ?_)
    refine SemW.draw tblOk mixed (fun w' => St w [] [] w') [12, 13] [0, 1, 2, 3, 4, 5, 7, 8, 9, 10, 11, 6, 12, 13] (by kernel_rfl) hS.drew ?_
    have hS := hS.drew
    generalize w1.drew = w1 at hS
    repeat (first | refine SemW.run tblOk ?_ | refine jA (by omega) ?_ | refine jB (by omega) ?_ | refine jC (by omega) ?_ | refine jD (by omega) ?_ | refine jE rfl ?_ | refine jF (by omega) ?_ | (refine jG ?_; first | with_reducible (first | refine jH ?_ | refine jI ?_ | refine jJ ?_ | refine jK ?_ | refine jL ?_) | refine jM (by omega) ?_ | refine jN (by omega) ?_ | with_reducible refine jM rfl ?_ | refine jM (by assumption) ?_ | refine jN (by assumption) ?_ | refine jM (by decide) ?_ | refine jN (by decide) ?_) | refine jF (ptr_ok tblOk rfl rfl) ?_ | refine jO (fun _ => by kernel_rfl) ?_ | refine jF (by decide) ?_ | refine hS.ldC rfl ?_ | refine hS.ldnC rfl ?_)
    rw [show (((k + 1 : Nat) : Int) - 1) = (k : Int) by omega]
    repeat (first | refine SemW.run tblOk ?_ | refine jA (by omega) ?_ | refine jB (by omega) ?_ | refine jC (by omega) ?_ | refine jD (by omega) ?_ | refine jE rfl ?_ | refine jF (by omega) ?_ | (refine jG ?_; first | with_reducible (first | refine jH ?_ | refine jI ?_ | refine jJ ?_ | refine jK ?_ | refine jL ?_) | refine jM (by omega) ?_ | refine jN (by omega) ?_ | with_reducible refine jM rfl ?_ | refine jM (by assumption) ?_ | refine jN (by assumption) ?_ | refine jM (by decide) ?_ | refine jN (by decide) ?_) | refine jF (ptr_ok tblOk rfl rfl) ?_ | refine jO (fun _ => by kernel_rfl) ?_ | refine jF (by decide) ?_ | refine hS.ldC rfl ?_ | refine hS.ldnC rfl ?_)
    refine hld1 _ ?_
    repeat (first | refine SemW.run tblOk ?_ | refine jA (by omega) ?_ | refine jB (by omega) ?_ | refine jC (by omega) ?_ | refine jD (by omega) ?_ | refine jE rfl ?_ | refine jF (by omega) ?_ | (refine jG ?_; first | with_reducible (first | refine jH ?_ | refine jI ?_ | refine jJ ?_ | refine jK ?_ | refine jL ?_) | refine jM (by omega) ?_ | refine jN (by omega) ?_ | with_reducible refine jM rfl ?_ | refine jM (by assumption) ?_ | refine jN (by assumption) ?_ | refine jM (by decide) ?_ | refine jN (by decide) ?_) | refine jF (ptr_ok tblOk rfl rfl) ?_ | refine jO (fun _ => by kernel_rfl) ?_ | refine jF (by decide) ?_ | refine hS.ldC rfl ?_ | refine hS.ldnC rfl ?_)
    refine hld2 _ ?_
    repeat (first | refine SemW.run tblOk ?_ | refine jA (by omega) ?_ | refine jB (by omega) ?_ | refine jC (by omega) ?_ | refine jD (by omega) ?_ | refine jE rfl ?_ | refine jF (by omega) ?_ | (refine jG ?_; first | with_reducible (first | refine jH ?_ | refine jI ?_ | refine jJ ?_ | refine jK ?_ | refine jL ?_) | refine jM (by omega) ?_ | refine jN (by omega) ?_ | with_reducible refine jM rfl ?_ | refine jM (by assumption) ?_ | refine jN (by assumption) ?_ | refine jM (by decide) ?_ | refine jN (by decide) ?_) | refine jF (ptr_ok tblOk rfl rfl) ?_ | refine jO (fun _ => by kernel_rfl) ?_ | refine jF (by decide) ?_ | refine hS.ldC rfl ?_ | refine hS.ldnC rfl ?_)
    refine Cl.mono (id_1_spec _ _) ?_
    rintro _ w2 ⟨rfl, hS'⟩
    have hS := hS.call0 hS'
    refine Chk.mk hS ?_
    refine Cl.mono (id_1_spec _ _) ?_
    rintro _ w3 ⟨rfl, hS'⟩
    have hS := hS.call0 hS'
    by_cases hle : xs[k].id < xs[k + 1].id
    · repeat (first | refine SemW.run tblOk ?_ | refine jA (by omega) ?_ | refine jB (by omega) ?_ | refine jC (by omega) ?_ | refine jD (by omega) ?_ | refine jE rfl ?_ | refine jF (by omega) ?_ | (refine jG ?_; first | with_reducible (first | refine jH ?_ | refine jI ?_ | refine jJ ?_ | refine jK ?_ | refine jL ?_) | refine jM (by omega) ?_ | refine jN (by omega) ?_ | with_reducible refine jM rfl ?_ | refine jM (by assumption) ?_ | refine jN (by assumption) ?_ | refine jM (by decide) ?_ | refine jN (by decide) ?_) | refine jF (ptr_ok tblOk rfl rfl) ?_ | refine jO (fun _ => by kernel_rfl) ?_ | refine jF (by decide) ?_)
      refine ⟨k + 1, ⟨rfl, rfl, rfl, trivial⟩, ⟨fun i h1 h2 => ?_, hS⟩, by omega⟩
      by_cases hik : i = k
      · subst hik; exact hle
      · exact hlt i (by omega) h2
    · repeat (first | refine SemW.run tblOk ?_ | refine jA (by omega) ?_ | refine jB (by omega) ?_ | refine jC (by omega) ?_ | refine jD (by omega) ?_ | refine jE rfl ?_ | refine jF (by omega) ?_ | (refine jG ?_; first | with_reducible (first | refine jH ?_ | refine jI ?_ | refine jJ ?_ | refine jK ?_ | refine jL ?_) | refine jM (by omega) ?_ | refine jN (by omega) ?_ | with_reducible refine jM rfl ?_ | refine jM (by assumption) ?_ | refine jN (by assumption) ?_ | refine jM (by decide) ?_ | refine jN (by decide) ?_) | refine jF (ptr_ok tblOk rfl rfl) ?_ | refine jO (fun _ => by kernel_rfl) ?_ | refine jF (by decide) ?_)
      refine ⟨⟨false, rfl, ?_⟩, hS⟩
      simp only [Bool.false_eq_true, false_iff]
      intro h
      have := h k (by simpa using hk)
      simp only [List.getElem_map] at this
      exact hle this
  · repeat (first | refine SemW.run tblOk ?_ | refine jA (by omega) ?_ | refine jB (by omega) ?_ | refine jC (by omega) ?_ | refine jD (by omega) ?_ | refine jE rfl ?_ | refine jF (by omega) ?_ | (refine jG ?_; first | with_reducible (first | refine jH ?_ | refine jI ?_ | refine jJ ?_ | refine jK ?_ | refine jL ?_) | refine jM (by omega) ?_ | refine jN (by omega) ?_ | with_reducible refine jM rfl ?_ | refine jM (by assumption) ?_ | refine jN (by assumption) ?_ | refine jM (by decide) ?_ | refine jN (by decide) ?_) | refine jF (ptr_ok tblOk rfl rfl) ?_ | refine jO (fun _ => by kernel_rfl) ?_ | refine jF (by decide) ?_)
    refine ⟨⟨true, rfl, ?_⟩, hS⟩
    simp only [true_iff]
    intro i h
    simp only [List.length_map] at h
    simp only [List.getElem_map]
    exact hlt i (by omega) h
set_option maxHeartbeats 4000000 in
theorem rising_Flight_spec {w : World} {a : Option Addr} {n cap : Nat} {xs : List FlightM} (hn : n = xs.length) (hR : RSl 8 RFlight w [.slice a n cap] xs) (hlen : n ≤ 8388608) :
    Cl Tryz.prog f_rows_rising_api_Flight [.slice a n cap, .func (.func f_rows_inForm_2) #[] #[]] w fun v w' => (∃ bv : Bool, v = .bool bv ∧ (bv = true ↔ Rises (xs.map (fun x => x.id)))) ∧ St w [] [] w' := by
  have hS := St.start w
  subst hn
  refine en_rows_rising_api_Flight rfl ?_
  repeat (first | refine SemW.run tblOk ?_ | refine jA (by omega) ?_ | refine jB (by omega) ?_ | refine jC (by omega) ?_ | refine jD (by omega) ?_ | refine jE rfl ?_ | refine jF (by omega) ?_ | (refine jG ?_; first | with_reducible (first | refine jH ?_ | refine jI ?_ | refine jJ ?_ | refine jK ?_ | refine jL ?_) | refine jM (by omega) ?_ | refine jN (by omega) ?_ | with_reducible refine jM rfl ?_ | refine jM (by assumption) ?_ | refine jN (by assumption) ?_ | refine jM (by decide) ?_ | refine jN (by decide) ?_) | refine jF (ptr_ok tblOk rfl rfl) ?_ | refine jO (fun _ => by kernel_rfl) ?_ | refine jF (by decide) ?_)
  refine SemW.loop (fun k : Nat => [(0, .slice a xs.length cap), (1, .func (.func f_rows_inForm_2) #[] #[]), (5, .int .i64 ((k + 1 : Nat) : Int))])
    (fun k w' => (∀ i (h1 : i + 1 < k + 1) (h2 : i + 1 < xs.length), xs[i].id < xs[i + 1].id) ∧ St w [] [] w') (fun k => xs.length - k) 0
    ⟨rfl, rfl, rfl, trivial⟩ ⟨fun i h => by omega, hS⟩ ?_
  clear hS
  rintro k w1 ⟨hlt, hS⟩
  by_cases hk : k + 1 < xs.length
  · obtain ⟨g, off, cs1, rfl, hr1, hld1⟩ := RSl.ldnC hR (show k < xs.length by omega)
    obtain ⟨g', off', cs2, hg', hr2, hld2⟩ := RSl.ldnC hR hk
    simp only [Option.some.injEq, Addr.mk.injEq, and_true] at hg'
    obtain ⟨rfl, rfl⟩ := hg'
    obtain ⟨rfl, -⟩ := hr1
    obtain ⟨rfl, -⟩ := hr2
    repeat (first | refine SemW.run tblOk ?_ | refine jA (by omega) ?_ | refine jB (by omega) ?_ | refine jC (by omega) ?_ | refine jD (by omega) ?_ | refine jE rfl ?_ | refine jF (by omega) ?_ | (refine jG ?_; first | with_reducible (first | refine jH ?_ | refine jI ?_ | refine jJ ?_ | refine jK ?_ | refine jL ?_) | refine jM (by omega) ?_ | refine jN (by omega) ?_ | with_reducible refine jM rfl ?_ | refine jM (by assumption) ?_ | refine jN (by assumption) ?_ | refine jM (by decide) ?_ | refine jN (by decide) ?_) | refine jF (ptr_ok tblOk rfl rfl) ?_ | refine jO (fun _ => by kernel_rfl) ?_ | refine jF (by decide) ?_)
    refine SemW.draw tblOk mixed (fun w' => St w [] [] w') [12, 13] [0, 1, 2, 3, 4, 5, 7, 8, 9, 10, 11, 6, 12, 13] (by kernel_rfl) hS.drew ?_
    have hS := hS.drew
    generalize w1.drew = w1 at hS
    repeat (first | refine SemW.run tblOk ?_ | refine jA (by omega) ?_ | refine jB (by omega) ?_ | refine jC (by omega) ?_ | refine jD (by omega) ?_ | refine jE rfl ?_ | refine jF (by omega) ?_ | (refine jG ?_; first | with_reducible (first | refine jH ?_ | refine jI ?_ | refine jJ ?_ | refine jK ?_ | refine jL ?_) | refine jM (by omega) ?_ | refine jN (by omega) ?_ | with_reducible refine jM rfl ?_ | refine jM (by assumption) ?_ | refine jN (by assumption) ?_ | refine jM (by decide) ?_ | refine jN (by decide) ?_) | refine jF (ptr_ok tblOk rfl rfl) ?_ | refine jO (fun _ => by kernel_rfl) ?_ | refine jF (by decide) ?_ | refine hS.ldC rfl ?_ | refine hS.ldnC rfl ?_)
    rw [show (((k + 1 : Nat) : Int) - 1) = (k : Int) by omega]
    repeat (first | refine SemW.run tblOk ?_ | refine jA (by omega) ?_ | refine jB (by omega) ?_ | refine jC (by omega) ?_ | refine jD (by omega) ?_ | refine jE rfl ?_ | refine jF (by omega) ?_ | (refine jG ?_; first | with_reducible (first | refine jH ?_ | refine jI ?_ | refine jJ ?_ | refine jK ?_ | refine jL ?_) | refine jM (by omega) ?_ | refine jN (by omega) ?_ | with_reducible refine jM rfl ?_ | refine jM (by assumption) ?_ | refine jN (by assumption) ?_ | refine jM (by decide) ?_ | refine jN (by decide) ?_) | refine jF (ptr_ok tblOk rfl rfl) ?_ | refine jO (fun _ => by kernel_rfl) ?_ | refine jF (by decide) ?_ | refine hS.ldC rfl ?_ | refine hS.ldnC rfl ?_)
    refine hld1 _ ?_
    repeat (first | refine SemW.run tblOk ?_ | refine jA (by omega) ?_ | refine jB (by omega) ?_ | refine jC (by omega) ?_ | refine jD (by omega) ?_ | refine jE rfl ?_ | refine jF (by omega) ?_ | (refine jG ?_; first | with_reducible (first | refine jH ?_ | refine jI ?_ | refine jJ ?_ | refine jK ?_ | refine jL ?_) | refine jM (by omega) ?_ | refine jN (by omega) ?_ | with_reducible refine jM rfl ?_ | refine jM (by assumption) ?_ | refine jN (by assumption) ?_ | refine jM (by decide) ?_ | refine jN (by decide) ?_) | refine jF (ptr_ok tblOk rfl rfl) ?_ | refine jO (fun _ => by kernel_rfl) ?_ | refine jF (by decide) ?_ | refine hS.ldC rfl ?_ | refine hS.ldnC rfl ?_)
    refine hld2 _ ?_
    repeat (first | refine SemW.run tblOk ?_ | refine jA (by omega) ?_ | refine jB (by omega) ?_ | refine jC (by omega) ?_ | refine jD (by omega) ?_ | refine jE rfl ?_ | refine jF (by omega) ?_ | (refine jG ?_; first | with_reducible (first | refine jH ?_ | refine jI ?_ | refine jJ ?_ | refine jK ?_ | refine jL ?_) | refine jM (by omega) ?_ | refine jN (by omega) ?_ | with_reducible refine jM rfl ?_ | refine jM (by assumption) ?_ | refine jN (by assumption) ?_ | refine jM (by decide) ?_ | refine jN (by decide) ?_) | refine jF (ptr_ok tblOk rfl rfl) ?_ | refine jO (fun _ => by kernel_rfl) ?_ | refine jF (by decide) ?_ | refine hS.ldC rfl ?_ | refine hS.ldnC rfl ?_)
    refine Cl.mono (id_2_spec _) ?_
    rintro _ w2 ⟨rfl, hS'⟩
    have hS := hS.call0 hS'
    refine Chk.mk hS ?_
    refine Cl.mono (id_2_spec _) ?_
    rintro _ w3 ⟨rfl, hS'⟩
    have hS := hS.call0 hS'
    by_cases hle : xs[k].id < xs[k + 1].id
    · repeat (first | refine SemW.run tblOk ?_ | refine jA (by omega) ?_ | refine jB (by omega) ?_ | refine jC (by omega) ?_ | refine jD (by omega) ?_ | refine jE rfl ?_ | refine jF (by omega) ?_ | (refine jG ?_; first | with_reducible (first | refine jH ?_ | refine jI ?_ | refine jJ ?_ | refine jK ?_ | refine jL ?_) | refine jM (by omega) ?_ | refine jN (by omega) ?_ | with_reducible refine jM rfl ?_ | refine jM (by assumption) ?_ | refine jN (by assumption) ?_ | refine jM (by decide) ?_ | refine jN (by decide) ?_) | refine jF (ptr_ok tblOk rfl rfl) ?_ | refine jO (fun _ => by kernel_rfl) ?_ | refine jF (by decide) ?_)
      refine ⟨k + 1, ⟨rfl, rfl, rfl, trivial⟩, ⟨fun i h1 h2 => ?_, hS⟩, by omega⟩
      by_cases hik : i = k
      · subst hik; exact hle
      · exact hlt i (by omega) h2
    · repeat (first | refine SemW.run tblOk ?_ | refine jA (by omega) ?_ | refine jB (by omega) ?_ | refine jC (by omega) ?_ | refine jD (by omega) ?_ | refine jE rfl ?_ | refine jF (by omega) ?_ | (refine jG ?_; first | with_reducible (first | refine jH ?_ | refine jI ?_ | refine jJ ?_ | refine jK ?_ | refine jL ?_) | refine jM (by omega) ?_ | refine jN (by omega) ?_ | with_reducible refine jM rfl ?_ | refine jM (by assumption) ?_ | refine jN (by assumption) ?_ | refine jM (by decide) ?_ | refine jN (by decide) ?_) | refine jF (ptr_ok tblOk rfl rfl) ?_ | refine jO (fun _ => by kernel_rfl) ?_ | refine jF (by decide) ?_)
      refine ⟨⟨false, rfl, ?_⟩, hS⟩
      simp only [Bool.false_eq_true, false_iff]
      intro h
      have := h k (by simpa using hk)
      simp only [List.getElem_map] at this
      exact hle this
  · repeat (first | refine SemW.run tblOk ?_ | refine jA (by omega) ?_ | refine jB (by omega) ?_ | refine jC (by omega) ?_ | refine jD (by omega) ?_ | refine jE rfl ?_ | refine jF (by omega) ?_ | (refine jG ?_; first | with_reducible (first | refine jH ?_ | refine jI ?_ | refine jJ ?_ | refine jK ?_ | refine jL ?_) | refine jM (by omega) ?_ | refine jN (by omega) ?_ | with_reducible refine jM rfl ?_ | refine jM (by assumption) ?_ | refine jN (by assumption) ?_ | refine jM (by decide) ?_ | refine jN (by decide) ?_) | refine jF (ptr_ok tblOk rfl rfl) ?_ | refine jO (fun _ => by kernel_rfl) ?_ | refine jF (by decide) ?_)
    refine ⟨⟨true, rfl, ?_⟩, hS⟩
    simp only [true_iff]
    intro i h
    simp only [List.length_map] at h
    simp only [List.getElem_map]
    exact hlt i (by omega) h
set_option maxHeartbeats 4000000 in
theorem rising_Pax_spec {w : World} {a : Option Addr} {n cap : Nat} {xs : List PaxM} (hn : n = xs.length) (hR : RSl 13 RPax w [.slice a n cap] xs) (hlen : n ≤ 8388608) :
    Cl Tryz.prog f_rows_rising_api_Pax [.slice a n cap, .func (.func f_rows_inForm_3) #[] #[]] w fun v w' => (∃ bv : Bool, v = .bool bv ∧ (bv = true ↔ Rises (xs.map (fun x => x.id)))) ∧ St w [] [] w' := by
  have hS := St.start w
  subst hn
  refine en_rows_rising_api_Pax rfl ?_
  repeat (first | refine SemW.run tblOk ?_ | refine jA (by omega) ?_ | refine jB (by omega) ?_ | refine jC (by omega) ?_ | refine jD (by omega) ?_ | refine jE rfl ?_ | refine jF (by omega) ?_ | (refine jG ?_; first | with_reducible (first | refine jH ?_ | refine jI ?_ | refine jJ ?_ | refine jK ?_ | refine jL ?_) | refine jM (by omega) ?_ | refine jN (by omega) ?_ | with_reducible refine jM rfl ?_ | refine jM (by assumption) ?_ | refine jN (by assumption) ?_ | refine jM (by decide) ?_ | refine jN (by decide) ?_) | refine jF (ptr_ok tblOk rfl rfl) ?_ | refine jO (fun _ => by kernel_rfl) ?_ | refine jF (by decide) ?_)
  refine SemW.loop (fun k : Nat => [(0, .slice a xs.length cap), (1, .func (.func f_rows_inForm_3) #[] #[]), (5, .int .i64 ((k + 1 : Nat) : Int))])
    (fun k w' => (∀ i (h1 : i + 1 < k + 1) (h2 : i + 1 < xs.length), xs[i].id < xs[i + 1].id) ∧ St w [] [] w') (fun k => xs.length - k) 0
    ⟨rfl, rfl, rfl, trivial⟩ ⟨fun i h => by omega, hS⟩ ?_
  clear hS
  rintro k w1 ⟨hlt, hS⟩
  by_cases hk : k + 1 < xs.length
  · obtain ⟨g, off, cs1, rfl, hr1, hld1⟩ := RSl.ldnC hR (show k < xs.length by omega)
    obtain ⟨g', off', cs2, hg', hr2, hld2⟩ := RSl.ldnC hR hk
    simp only [Option.some.injEq, Addr.mk.injEq, and_true] at hg'
    obtain ⟨rfl, rfl⟩ := hg'
    obtain ⟨rfl, -⟩ := hr1
    obtain ⟨rfl, -⟩ := hr2
    repeat (first | refine SemW.run tblOk ?_ | refine jA (by omega) ?_ | refine jB (by omega) ?_ | refine jC (by omega) ?_ | refine jD (by omega) ?_ | refine jE rfl ?_ | refine jF (by omega) ?_ | (refine jG ?_; first | with_reducible (first | refine jH ?_ | refine jI ?_ | refine jJ ?_ | refine jK ?_ | refine jL ?_) | refine jM (by omega) ?_ | refine jN (by omega) ?_ | with_reducible refine jM rfl ?_ | refine jM (by assumption) ?_ | refine jN (by assumption) ?_ | refine jM (by decide) ?_ | refine jN (by decide) ?_) | refine jF (ptr_ok tblOk rfl rfl) ?_ | refine jO (fun _ => by kernel_rfl) ?_ | refine jF (by decide) ?_)
    refine SemW.draw tblOk mixed (fun w' => St w [] [] w') [12, 13] [0, 1, 2, 3, 4, 5, 7, 8, 9, 10, 11, 6, 12, 13] (by kernel_rfl) hS.drew ?_
    have hS := hS.drew
    generalize w1.drew = w1 at hS
    repeat (first | refine SemW.run tblOk ?_ | refine jA (by omega) ?_ | refine jB (by omega) ?_ | refine jC (by omega) ?_ | refine jD (by omega) ?_ | refine jE rfl ?_ | refine jF (by omega) ?_ | (refine jG ?_; first | with_reducible (first | refine jH ?_ | refine jI ?_ | refine jJ ?_ | refine jK ?_ | refine jL ?_) | refine jM (by omega) ?_ | refine jN (by omega) ?_ | with_reducible refine jM rfl ?_ | refine jM (by assumption) ?_ | refine jN (by assumption) ?_ | refine jM (by decide) ?_ | refine jN (by decide) ?_) | refine jF (ptr_ok tblOk rfl rfl) ?_ | refine jO (fun _ => by kernel_rfl) ?_ | refine jF (by decide) ?_ | refine hS.ldC rfl ?_ | refine hS.ldnC rfl ?_)
    rw [show (((k + 1 : Nat) : Int) - 1) = (k : Int) by omega]
    repeat (first | refine SemW.run tblOk ?_ | refine jA (by omega) ?_ | refine jB (by omega) ?_ | refine jC (by omega) ?_ | refine jD (by omega) ?_ | refine jE rfl ?_ | refine jF (by omega) ?_ | (refine jG ?_; first | with_reducible (first | refine jH ?_ | refine jI ?_ | refine jJ ?_ | refine jK ?_ | refine jL ?_) | refine jM (by omega) ?_ | refine jN (by omega) ?_ | with_reducible refine jM rfl ?_ | refine jM (by assumption) ?_ | refine jN (by assumption) ?_ | refine jM (by decide) ?_ | refine jN (by decide) ?_) | refine jF (ptr_ok tblOk rfl rfl) ?_ | refine jO (fun _ => by kernel_rfl) ?_ | refine jF (by decide) ?_ | refine hS.ldC rfl ?_ | refine hS.ldnC rfl ?_)
    refine hld1 _ ?_
    repeat (first | refine SemW.run tblOk ?_ | refine jA (by omega) ?_ | refine jB (by omega) ?_ | refine jC (by omega) ?_ | refine jD (by omega) ?_ | refine jE rfl ?_ | refine jF (by omega) ?_ | (refine jG ?_; first | with_reducible (first | refine jH ?_ | refine jI ?_ | refine jJ ?_ | refine jK ?_ | refine jL ?_) | refine jM (by omega) ?_ | refine jN (by omega) ?_ | with_reducible refine jM rfl ?_ | refine jM (by assumption) ?_ | refine jN (by assumption) ?_ | refine jM (by decide) ?_ | refine jN (by decide) ?_) | refine jF (ptr_ok tblOk rfl rfl) ?_ | refine jO (fun _ => by kernel_rfl) ?_ | refine jF (by decide) ?_ | refine hS.ldC rfl ?_ | refine hS.ldnC rfl ?_)
    refine hld2 _ ?_
    repeat (first | refine SemW.run tblOk ?_ | refine jA (by omega) ?_ | refine jB (by omega) ?_ | refine jC (by omega) ?_ | refine jD (by omega) ?_ | refine jE rfl ?_ | refine jF (by omega) ?_ | (refine jG ?_; first | with_reducible (first | refine jH ?_ | refine jI ?_ | refine jJ ?_ | refine jK ?_ | refine jL ?_) | refine jM (by omega) ?_ | refine jN (by omega) ?_ | with_reducible refine jM rfl ?_ | refine jM (by assumption) ?_ | refine jN (by assumption) ?_ | refine jM (by decide) ?_ | refine jN (by decide) ?_) | refine jF (ptr_ok tblOk rfl rfl) ?_ | refine jO (fun _ => by kernel_rfl) ?_ | refine jF (by decide) ?_ | refine hS.ldC rfl ?_ | refine hS.ldnC rfl ?_)
    refine Cl.mono (id_3_spec _) ?_
    rintro _ w2 ⟨rfl, hS'⟩
    have hS := hS.call0 hS'
    refine Chk.mk hS ?_
    refine Cl.mono (id_3_spec _) ?_
    rintro _ w3 ⟨rfl, hS'⟩
    have hS := hS.call0 hS'
    by_cases hle : xs[k].id < xs[k + 1].id
    · repeat (first | refine SemW.run tblOk ?_ | refine jA (by omega) ?_ | refine jB (by omega) ?_ | refine jC (by omega) ?_ | refine jD (by omega) ?_ | refine jE rfl ?_ | refine jF (by omega) ?_ | (refine jG ?_; first | with_reducible (first | refine jH ?_ | refine jI ?_ | refine jJ ?_ | refine jK ?_ | refine jL ?_) | refine jM (by omega) ?_ | refine jN (by omega) ?_ | with_reducible refine jM rfl ?_ | refine jM (by assumption) ?_ | refine jN (by assumption) ?_ | refine jM (by decide) ?_ | refine jN (by decide) ?_) | refine jF (ptr_ok tblOk rfl rfl) ?_ | refine jO (fun _ => by kernel_rfl) ?_ | refine jF (by decide) ?_)
      refine ⟨k + 1, ⟨rfl, rfl, rfl, trivial⟩, ⟨fun i h1 h2 => ?_, hS⟩, by omega⟩
      by_cases hik : i = k
      · subst hik; exact hle
      · exact hlt i (by omega) h2
    · repeat (first | refine SemW.run tblOk ?_ | refine jA (by omega) ?_ | refine jB (by omega) ?_ | refine jC (by omega) ?_ | refine jD (by omega) ?_ | refine jE rfl ?_ | refine jF (by omega) ?_ | (refine jG ?_; first | with_reducible (first | refine jH ?_ | refine jI ?_ | refine jJ ?_ | refine jK ?_ | refine jL ?_) | refine jM (by omega) ?_ | refine jN (by omega) ?_ | with_reducible refine jM rfl ?_ | refine jM (by assumption) ?_ | refine jN (by assumption) ?_ | refine jM (by decide) ?_ | refine jN (by decide) ?_) | refine jF (ptr_ok tblOk rfl rfl) ?_ | refine jO (fun _ => by kernel_rfl) ?_ | refine jF (by decide) ?_)
      refine ⟨⟨false, rfl, ?_⟩, hS⟩
      simp only [Bool.false_eq_true, false_iff]
      intro h
      have := h k (by simpa using hk)
      simp only [List.getElem_map] at this
      exact hle this
  · repeat (first | refine SemW.run tblOk ?_ | refine jA (by omega) ?_ | refine jB (by omega) ?_ | refine jC (by omega) ?_ | refine jD (by omega) ?_ | refine jE rfl ?_ | refine jF (by omega) ?_ | (refine jG ?_; first | with_reducible (first | refine jH ?_ | refine jI ?_ | refine jJ ?_ | refine jK ?_ | refine jL ?_) | refine jM (by omega) ?_ | refine jN (by omega) ?_ | with_reducible refine jM rfl ?_ | refine jM (by assumption) ?_ | refine jN (by assumption) ?_ | refine jM (by decide) ?_ | refine jN (by decide) ?_) | refine jF (ptr_ok tblOk rfl rfl) ?_ | refine jO (fun _ => by kernel_rfl) ?_ | refine jF (by decide) ?_)
    refine ⟨⟨true, rfl, ?_⟩, hS⟩
    simp only [true_iff]
    intro i h
    simp only [List.length_map] at h
    simp only [List.getElem_map]
    exact hlt i (by omega) h
end Go.Proofs.YthpmmfapolcaiaaGreatDoor

/- Package rows: inForm. -/
namespace Go.Proofs.YthpmmfapolcaiaaGreatDoor
open Go Go.Eng Go.Proofs
def seatFine (p : PaxM) : Prop := (p.num = 0 ∧ p.c = 0) ∨ seatOk p.num p.c = true
structure InForm (s : StateM) : Prop where
  seats : ∀ p ∈ s.pxs, seatFine p
  eqs : Rises (s.eqs.map (fun x => x.id))
  fls : Rises (s.fls.map (fun x => x.id))
  pxs : Rises (s.pxs.map (fun x => x.id))
structure StateAt (w : World) (s : StateM) (a b c : Option Addr) (ca cb cc : Nat) : Prop where
  eqs : RSl 2 REquip w [.slice a s.eqs.length ca] s.eqs
  fls : RSl 8 RFlight w [.slice b s.fls.length cb] s.fls
  pxs : RSl 13 RPax w [.slice c s.pxs.length cc] s.pxs
  bulk : (s.eqs.map fun e => rowsW e.rows + 3).sum + 9 * s.fls.length + 14 * s.pxs.length + 4 ≤ 8388608
theorem sum_ge (l : List EquipM) : 3 * l.length ≤ (l.map fun e => rowsW e.rows + 3).sum := by
  induction l with
  | nil => simp
  | cons e l ih => simp only [List.map_cons, List.sum_cons, List.length_cons]; omega
theorem sum_at (l : List EquipM) (k : Nat) (hk : k < l.length) : rowsW l[k].rows + 3 ≤ (l.map fun e => rowsW e.rows + 3).sum := by
  induction l generalizing k with
  | nil => simp at hk
  | cons e l ih =>
    simp only [List.map_cons, List.sum_cons]
    cases k with
    | zero => simp
    | succ k => have := ih k (by simpa using hk); rw [List.getElem_cons_succ]; omega
def stV (s : StateM) (a b c : Option Addr) (ca cb cc : Nat) : List Value := [.slice a s.eqs.length ca, .slice b s.fls.length cb, .slice c s.pxs.length cc]
theorem StateAt.keep {w0 w : World} {H : Heap} (hS : St w0 [] H w) {s : StateM} {a b c : Option Addr} {ca cb cc : Nat} (h : StateAt w0 s a b c ca cb cc) : StateAt w s a b c ca cb cc :=
  ⟨RSl.keep hS (fun cs x ⟨v, h1, h2, h3⟩ => ⟨v, h1, h2, RSl.keep hS (fun _ _ h => h) h3⟩) h.eqs, RSl.keep hS (fun _ _ h => h) h.fls, RSl.keep hS (fun _ _ h => h) h.pxs, h.bulk⟩
set_option maxHeartbeats 4000000 in
theorem inForm_spec {w : World} {s : StateM} {a b c : Option Addr} {ca cb cc : Nat} (hs : StateAt w s a b c ca cb cc) :
    Cl Tryz.prog f_rows_inForm [.agg ⟨stV s a b c ca cb cc⟩] w fun v w' => (∃ bv : Bool, v = .bool bv ∧ (bv = true ↔ InForm s)) ∧ St w [] [] w' := by
  have hS := St.start w
  have hbulk := hs.bulk
  have hge := sum_ge s.eqs
  unfold stV
  refine en_rows_inForm rfl ?_
  repeat (first | refine SemW.run tblOk ?_ | refine jA (by omega) ?_ | refine jB (by omega) ?_ | refine jC (by omega) ?_ | refine jD (by omega) ?_ | refine jE rfl ?_ | refine jF (by omega) ?_ | (refine jG ?_; first | with_reducible (first | refine jH ?_ | refine jI ?_ | refine jJ ?_ | refine jK ?_ | refine jL ?_) | refine jM (by omega) ?_ | refine jN (by omega) ?_ | with_reducible refine jM rfl ?_ | refine jM (by assumption) ?_ | refine jN (by assumption) ?_ | refine jM (by decide) ?_ | refine jN (by decide) ?_) | refine jF (ptr_ok tblOk rfl rfl) ?_ | refine jO (fun _ => by kernel_rfl) ?_ | refine jF (by decide) ?_)
  refine hS.al ?_
  intro b1 w1 _ hS
  repeat (first | refine SemW.run tblOk ?_ | refine jA (by omega) ?_ | refine jB (by omega) ?_ | refine jC (by omega) ?_ | refine jD (by omega) ?_ | refine jE rfl ?_ | refine jF (by omega) ?_ | (refine jG ?_; first | with_reducible (first | refine jH ?_ | refine jI ?_ | refine jJ ?_ | refine jK ?_ | refine jL ?_) | refine jM (by omega) ?_ | refine jN (by omega) ?_ | with_reducible refine jM rfl ?_ | refine jM (by assumption) ?_ | refine jN (by assumption) ?_ | refine jM (by decide) ?_ | refine jN (by decide) ?_) | refine jF (ptr_ok tblOk rfl rfl) ?_ | refine jO (fun _ => by kernel_rfl) ?_ | refine jF (by decide) ?_ | refine hS.ld rfl ?_ | refine hS.ldn rfl ?_ | (refine hS.st rfl rfl ?_; intro _ hS))
  rename_i w2
  refine SemW.loop (fun k : Nat => [(1, ptr b1), (6, .slice c s.pxs.length cc), (7, .int .i64 s.pxs.length), (8, .int .i64 k)])
    (fun k w' => k ≤ s.pxs.length ∧ (∀ i (h : i < s.pxs.length), i < k → seatFine s.pxs[i]) ∧ St w [] [(b1, .cells ⟨stV s a b c ca cb cc⟩ T_api_State (0, 0))] w') (fun k => s.pxs.length - k) 0
    ⟨rfl, rfl, rfl, rfl, trivial⟩ ⟨Nat.zero_le _, fun i _ h => by omega, hS⟩ ?_
  clear hS
  rintro k w3 ⟨hk, hfine, hS⟩
  by_cases hkl : k < s.pxs.length
  · obtain ⟨g, off, cs, hg, ⟨rfl, hp⟩, hld⟩ := RSl.ldn (hS.sub (H' := []) (List.nil_sublist _)) hs.pxs hkl
    have hnext : seatFine s.pxs[k] → ∀ i (h : i < s.pxs.length), i < k + 1 → seatFine s.pxs[i] := fun h i h1 h2 => by
      by_cases hik : i = k
      · subst hik; exact h
      · exact hfine i h1 (by omega)
    have hno : ¬ seatFine s.pxs[k] → ¬ InForm s := fun h hi => h (hi.seats _ (List.getElem_mem hkl))
    generalize s.pxs[k] = p at hp hld hnext hno
    have hpc := hp.c
    subst hg
    repeat (first | refine SemW.run tblOk ?_ | refine jA (by omega) ?_ | refine jB (by omega) ?_ | refine jC (by omega) ?_ | refine jD (by omega) ?_ | refine jE rfl ?_ | refine jF (by omega) ?_ | (refine jG ?_; first | with_reducible (first | refine jH ?_ | refine jI ?_ | refine jJ ?_ | refine jK ?_ | refine jL ?_) | refine jM (by omega) ?_ | refine jN (by omega) ?_ | with_reducible refine jM rfl ?_ | refine jM (by assumption) ?_ | refine jN (by assumption) ?_ | refine jM (by decide) ?_ | refine jN (by decide) ?_) | refine jF (ptr_ok tblOk rfl rfl) ?_ | refine jO (fun _ => by kernel_rfl) ?_ | refine jF (by decide) ?_)
    refine hld _ ?_
    unfold paxC
    repeat (first | refine SemW.run tblOk ?_ | refine jA (by omega) ?_ | refine jB (by omega) ?_ | refine jC (by omega) ?_ | refine jD (by omega) ?_ | refine jE rfl ?_ | refine jF (by omega) ?_ | (refine jG ?_; first | with_reducible (first | refine jH ?_ | refine jI ?_ | refine jJ ?_ | refine jK ?_ | refine jL ?_) | refine jM (by omega) ?_ | refine jN (by omega) ?_ | with_reducible refine jM rfl ?_ | refine jM (by assumption) ?_ | refine jN (by assumption) ?_ | refine jM (by decide) ?_ | refine jN (by decide) ?_) | refine jF (ptr_ok tblOk rfl rfl) ?_ | refine jO (fun _ => by kernel_rfl) ?_ | refine jF (by decide) ?_)
    refine hS.al ?_
    intro b4 w4 _ hS
    repeat (first | refine SemW.run tblOk ?_ | refine jA (by omega) ?_ | refine jB (by omega) ?_ | refine jC (by omega) ?_ | refine jD (by omega) ?_ | refine jE rfl ?_ | refine jF (by omega) ?_ | (refine jG ?_; first | with_reducible (first | refine jH ?_ | refine jI ?_ | refine jJ ?_ | refine jK ?_ | refine jL ?_) | refine jM (by omega) ?_ | refine jN (by omega) ?_ | with_reducible refine jM rfl ?_ | refine jM (by assumption) ?_ | refine jN (by assumption) ?_ | refine jM (by decide) ?_ | refine jN (by decide) ?_) | refine jF (ptr_ok tblOk rfl rfl) ?_ | refine jO (fun _ => by kernel_rfl) ?_ | refine jF (by decide) ?_ | refine hS.ld rfl ?_ | refine hS.ldn rfl ?_ | (refine hS.st rfl rfl ?_; intro _ hS))
    refine neqAgg (n := 2) (by omega) (by kernel_rfl) (eqSeat p.num p.c 0 0) ?_
    by_cases hz : p.num = 0 ∧ p.c = 0
    · rw [decide_eq_true hz, Bool.not_true]
      repeat (first | refine SemW.run tblOk ?_ | refine jA (by omega) ?_ | refine jB (by omega) ?_ | refine jC (by omega) ?_ | refine jD (by omega) ?_ | refine jE rfl ?_ | refine jF (by omega) ?_ | (refine jG ?_; first | with_reducible (first | refine jH ?_ | refine jI ?_ | refine jJ ?_ | refine jK ?_ | refine jL ?_) | refine jM (by omega) ?_ | refine jN (by omega) ?_ | with_reducible refine jM rfl ?_ | refine jM (by assumption) ?_ | refine jN (by assumption) ?_ | refine jM (by decide) ?_ | refine jN (by decide) ?_) | refine jF (ptr_ok tblOk rfl rfl) ?_ | refine jO (fun _ => by kernel_rfl) ?_ | refine jF (by decide) ?_ | refine hS.ld rfl ?_ | refine hS.ldn rfl ?_ | (refine hS.st rfl rfl ?_; intro _ hS))
      exact ⟨k + 1, ⟨rfl, rfl, rfl, rfl, trivial⟩, ⟨by omega, hnext (.inl hz), hS.sub (List.sublist_cons_self _ _)⟩, by omega⟩
    · rw [decide_eq_false hz, Bool.not_false]
      repeat (first | refine SemW.run tblOk ?_ | refine jA (by omega) ?_ | refine jB (by omega) ?_ | refine jC (by omega) ?_ | refine jD (by omega) ?_ | refine jE rfl ?_ | refine jF (by omega) ?_ | (refine jG ?_; first | with_reducible (first | refine jH ?_ | refine jI ?_ | refine jJ ?_ | refine jK ?_ | refine jL ?_) | refine jM (by omega) ?_ | refine jN (by omega) ?_ | with_reducible refine jM rfl ?_ | refine jM (by assumption) ?_ | refine jN (by assumption) ?_ | refine jM (by decide) ?_ | refine jN (by decide) ?_) | refine jF (ptr_ok tblOk rfl rfl) ?_ | refine jO (fun _ => by kernel_rfl) ?_ | refine jF (by decide) ?_ | refine hS.ld rfl ?_ | refine hS.ldn rfl ?_ | (refine hS.st rfl rfl ?_; intro _ hS))
      refine Cl.mono (Label_spec p.num p.c hpc) ?_
      rintro _ w5 ⟨rfl, hS'⟩
      have hS := hS.call0 hS'
      have hd := labelB_dash p.num p.c
      by_cases hok : seatOk p.num p.c = true
      · have hne : ¬ labelB p.num p.c = [45] := fun h => by rw [hd.1 h] at hok; cases hok
        repeat (first | refine SemW.run tblOk ?_ | refine jA (by omega) ?_ | refine jB (by omega) ?_ | refine jC (by omega) ?_ | refine jD (by omega) ?_ | refine jE rfl ?_ | refine jF (by omega) ?_ | (refine jG ?_; first | with_reducible (first | refine jH ?_ | refine jI ?_ | refine jJ ?_ | refine jK ?_ | refine jL ?_) | refine jM (by omega) ?_ | refine jN (by omega) ?_ | with_reducible refine jM rfl ?_ | refine jM (by assumption) ?_ | refine jN (by assumption) ?_ | refine jM (by decide) ?_ | refine jN (by decide) ?_) | refine jF (ptr_ok tblOk rfl rfl) ?_ | refine jO (fun _ => by kernel_rfl) ?_ | refine jF (by decide) ?_ | refine hS.ld rfl ?_ | refine hS.ldn rfl ?_ | (refine hS.st rfl rfl ?_; intro _ hS))
        exact ⟨k + 1, ⟨rfl, rfl, rfl, rfl, trivial⟩, ⟨by omega, hnext (.inr hok), hS.sub (List.sublist_cons_self _ _)⟩, by omega⟩
      · have hne : labelB p.num p.c = [45] := hd.2 (by simpa using hok)
        repeat (first | refine SemW.run tblOk ?_ | refine jA (by omega) ?_ | refine jB (by omega) ?_ | refine jC (by omega) ?_ | refine jD (by omega) ?_ | refine jE rfl ?_ | refine jF (by omega) ?_ | (refine jG ?_; first | with_reducible (first | refine jH ?_ | refine jI ?_ | refine jJ ?_ | refine jK ?_ | refine jL ?_) | refine jM (by omega) ?_ | refine jN (by omega) ?_ | with_reducible refine jM rfl ?_ | refine jM (by assumption) ?_ | refine jN (by assumption) ?_ | refine jM (by decide) ?_ | refine jN (by decide) ?_) | refine jF (ptr_ok tblOk rfl rfl) ?_ | refine jO (fun _ => by kernel_rfl) ?_ | refine jF (by decide) ?_ | refine hS.ld rfl ?_ | refine hS.ldn rfl ?_ | (refine hS.st rfl rfl ?_; intro _ hS))
        refine ⟨⟨false, rfl, ?_⟩, hS.nil⟩
        simp only [Bool.false_eq_true, false_iff]
        exact hno (fun h => h.elim hz hok)
  · have hke : k = s.pxs.length := by omega
    subst hke
    unfold stV at hS
    have hs' := hs.keep hS
    have hseats : ∀ p ∈ s.pxs, seatFine p := fun p hp => by
      obtain ⟨i, hi, rfl⟩ := List.mem_iff_getElem.1 hp
      exact hfine i hi hi
    repeat (first | refine SemW.run tblOk ?_ | refine jA (by omega) ?_ | refine jB (by omega) ?_ | refine jC (by omega) ?_ | refine jD (by omega) ?_ | refine jE rfl ?_ | refine jF (by omega) ?_ | (refine jG ?_; first | with_reducible (first | refine jH ?_ | refine jI ?_ | refine jJ ?_ | refine jK ?_ | refine jL ?_) | refine jM (by omega) ?_ | refine jN (by omega) ?_ | with_reducible refine jM rfl ?_ | refine jM (by assumption) ?_ | refine jN (by assumption) ?_ | refine jM (by decide) ?_ | refine jN (by decide) ?_) | refine jF (ptr_ok tblOk rfl rfl) ?_ | refine jO (fun _ => by kernel_rfl) ?_ | refine jF (by decide) ?_ | refine hS.ld rfl ?_ | refine hS.ldn rfl ?_ | (refine hS.st rfl rfl ?_; intro _ hS))
    refine Cl.mono (rising_Equip_spec rfl hs'.eqs (by omega)) ?_
    rintro _ w5 ⟨⟨b1', rfl, hb1⟩, hS'⟩
    have hS := hS.call0 hS'
    have hs' := hs.keep hS
    cases b1' with
    | false =>
      repeat (first | refine SemW.run tblOk ?_ | refine jA (by omega) ?_ | refine jB (by omega) ?_ | refine jC (by omega) ?_ | refine jD (by omega) ?_ | refine jE rfl ?_ | refine jF (by omega) ?_ | (refine jG ?_; first | with_reducible (first | refine jH ?_ | refine jI ?_ | refine jJ ?_ | refine jK ?_ | refine jL ?_) | refine jM (by omega) ?_ | refine jN (by omega) ?_ | with_reducible refine jM rfl ?_ | refine jM (by assumption) ?_ | refine jN (by assumption) ?_ | refine jM (by decide) ?_ | refine jN (by decide) ?_) | refine jF (ptr_ok tblOk rfl rfl) ?_ | refine jO (fun _ => by kernel_rfl) ?_ | refine jF (by decide) ?_ | refine hS.ld rfl ?_ | refine hS.ldn rfl ?_ | (refine hS.st rfl rfl ?_; intro _ hS))
      refine ⟨⟨false, rfl, ?_⟩, hS.nil⟩
      simp only [Bool.false_eq_true, false_iff]
      exact fun h => by have := hb1.2 h.eqs; cases this
    | true =>
      repeat (first | refine SemW.run tblOk ?_ | refine jA (by omega) ?_ | refine jB (by omega) ?_ | refine jC (by omega) ?_ | refine jD (by omega) ?_ | refine jE rfl ?_ | refine jF (by omega) ?_ | (refine jG ?_; first | with_reducible (first | refine jH ?_ | refine jI ?_ | refine jJ ?_ | refine jK ?_ | refine jL ?_) | refine jM (by omega) ?_ | refine jN (by omega) ?_ | with_reducible refine jM rfl ?_ | refine jM (by assumption) ?_ | refine jN (by assumption) ?_ | refine jM (by decide) ?_ | refine jN (by decide) ?_) | refine jF (ptr_ok tblOk rfl rfl) ?_ | refine jO (fun _ => by kernel_rfl) ?_ | refine jF (by decide) ?_ | refine hS.ld rfl ?_ | refine hS.ldn rfl ?_ | (refine hS.st rfl rfl ?_; intro _ hS))
      refine Cl.mono (rising_Flight_spec rfl hs'.fls (by omega)) ?_
      rintro _ w6 ⟨⟨b2', rfl, hb2⟩, hS'⟩
      have hS := hS.call0 hS'
      have hs' := hs.keep hS
      cases b2' with
      | false =>
        repeat (first | refine SemW.run tblOk ?_ | refine jA (by omega) ?_ | refine jB (by omega) ?_ | refine jC (by omega) ?_ | refine jD (by omega) ?_ | refine jE rfl ?_ | refine jF (by omega) ?_ | (refine jG ?_; first | with_reducible (first | refine jH ?_ | refine jI ?_ | refine jJ ?_ | refine jK ?_ | refine jL ?_) | refine jM (by omega) ?_ | refine jN (by omega) ?_ | with_reducible refine jM rfl ?_ | refine jM (by assumption) ?_ | refine jN (by assumption) ?_ | refine jM (by decide) ?_ | refine jN (by decide) ?_) | refine jF (ptr_ok tblOk rfl rfl) ?_ | refine jO (fun _ => by kernel_rfl) ?_ | refine jF (by decide) ?_ | refine hS.ld rfl ?_ | refine hS.ldn rfl ?_ | (refine hS.st rfl rfl ?_; intro _ hS))
        refine ⟨⟨false, rfl, ?_⟩, hS.nil⟩
        simp only [Bool.false_eq_true, false_iff]
        exact fun h => by have := hb2.2 h.fls; cases this
      | true =>
        repeat (first | refine SemW.run tblOk ?_ | refine jA (by omega) ?_ | refine jB (by omega) ?_ | refine jC (by omega) ?_ | refine jD (by omega) ?_ | refine jE rfl ?_ | refine jF (by omega) ?_ | (refine jG ?_; first | with_reducible (first | refine jH ?_ | refine jI ?_ | refine jJ ?_ | refine jK ?_ | refine jL ?_) | refine jM (by omega) ?_ | refine jN (by omega) ?_ | with_reducible refine jM rfl ?_ | refine jM (by assumption) ?_ | refine jN (by assumption) ?_ | refine jM (by decide) ?_ | refine jN (by decide) ?_) | refine jF (ptr_ok tblOk rfl rfl) ?_ | refine jO (fun _ => by kernel_rfl) ?_ | refine jF (by decide) ?_ | refine hS.ld rfl ?_ | refine hS.ldn rfl ?_ | (refine hS.st rfl rfl ?_; intro _ hS))
        refine Cl.mono (rising_Pax_spec rfl hs'.pxs (by omega)) ?_
        rintro _ w7 ⟨⟨b3', rfl, hb3⟩, hS'⟩
        have hS := hS.call0 hS'
        repeat (first | refine SemW.run tblOk ?_ | refine jA (by omega) ?_ | refine jB (by omega) ?_ | refine jC (by omega) ?_ | refine jD (by omega) ?_ | refine jE rfl ?_ | refine jF (by omega) ?_ | (refine jG ?_; first | with_reducible (first | refine jH ?_ | refine jI ?_ | refine jJ ?_ | refine jK ?_ | refine jL ?_) | refine jM (by omega) ?_ | refine jN (by omega) ?_ | with_reducible refine jM rfl ?_ | refine jM (by assumption) ?_ | refine jN (by assumption) ?_ | refine jM (by decide) ?_ | refine jN (by decide) ?_) | refine jF (ptr_ok tblOk rfl rfl) ?_ | refine jO (fun _ => by kernel_rfl) ?_ | refine jF (by decide) ?_ | refine hS.ld rfl ?_ | refine hS.ldn rfl ?_ | (refine hS.st rfl rfl ?_; intro _ hS))
        refine ⟨⟨b3', rfl, fun h => ⟨hseats, hb1.1 rfl, hb2.1 rfl, hb3.1 h⟩, fun h => hb3.2 h.pxs⟩, hS.nil⟩
end Go.Proofs.YthpmmfapolcaiaaGreatDoor

/- Package rows: All. -/
namespace Go.Proofs.YthpmmfapolcaiaaGreatDoor
open Go Go.Eng Go.Proofs
abbrev RecM := Bytes × Bytes
def opC (r : RecM) : List Value := [Str r.1, .bool false, Str r.2]
def eqRec (e : EquipM) : RecM := (keyB 101 e.id, equipB e)
def flRec (f : FlightM) : RecM := (keyB 102 f.id, flightB f)
def pxRec (p : PaxM) : RecM := (keyB 112 p.id, paxB p)
def recs (s : StateM) : List RecM := s.eqs.map eqRec ++ s.fls.map flRec ++ s.pxs.map pxRec
theorem opC_len (r : RecM) : (opC r).length = 3 := rfl
theorem recs_succ {α : Type} (pre : List RecM) (l : List α) (f : α → RecM) (k : Nat) (hk : k < l.length) : (pre ++ (l.take (k + 1)).map f).flatMap opC = (pre ++ (l.take k).map f).flatMap opC ++ opC (f l[k]) := by
  rw [List.take_succ_eq_append_getElem hk, List.map_append, ← List.append_assoc, List.flatMap_append]; simp
set_option maxHeartbeats 8000000 in
theorem All_spec {w : World} {s : StateM} {a b c : Option Addr} {ca cb cc : Nat} (hs : StateAt w s a b c ca cb cc) :
    Cl Tryz.prog f_rows_All [.agg ⟨stV s a b c ca cb cc⟩] w fun v w' => (¬ InForm s ∧ v = .tuple ⟨[.slice none 0 0, .int .i64 36]⟩ ∧ St w [] [] w') ∨
      (InForm s ∧ ∃ a' c' L, v = .tuple ⟨[.slice a' (recs s).length c', .int .i64 0]⟩ ∧ Vec T_api_Op 3 a' (recs s).length c' ((recs s).flatMap opC) L ∧ St w [] L w') := by
  have hS := St.start w
  have hbulk := hs.bulk
  have hge := sum_ge s.eqs
  unfold stV
  refine en_rows_All rfl ?_
  repeat (first | refine SemW.run tblOk ?_ | refine jA (by omega) ?_ | refine jB (by omega) ?_ | refine jC (by omega) ?_ | refine jD (by omega) ?_ | refine jE rfl ?_ | refine jF (by omega) ?_ | (refine jG ?_; first | with_reducible (first | refine jH ?_ | refine jI ?_ | refine jJ ?_ | refine jK ?_ | refine jL ?_) | refine jM (by omega) ?_ | refine jN (by omega) ?_ | with_reducible refine jM rfl ?_ | refine jM (by assumption) ?_ | refine jN (by assumption) ?_ | refine jM (by decide) ?_ | refine jN (by decide) ?_) | refine jF (ptr_ok tblOk rfl rfl) ?_ | refine jO (fun _ => by kernel_rfl) ?_ | refine jF (by decide) ?_)
  refine hS.al ?_
  intro b1 w1 _ hS
  repeat (first | refine SemW.run tblOk ?_ | refine jA (by omega) ?_ | refine jB (by omega) ?_ | refine jC (by omega) ?_ | refine jD (by omega) ?_ | refine jE rfl ?_ | refine jF (by omega) ?_ | (refine jG ?_; first | with_reducible (first | refine jH ?_ | refine jI ?_ | refine jJ ?_ | refine jK ?_ | refine jL ?_) | refine jM (by omega) ?_ | refine jN (by omega) ?_ | with_reducible refine jM rfl ?_ | refine jM (by assumption) ?_ | refine jN (by assumption) ?_ | refine jM (by decide) ?_ | refine jN (by decide) ?_) | refine jF (ptr_ok tblOk rfl rfl) ?_ | refine jO (fun _ => by kernel_rfl) ?_ | refine jF (by decide) ?_ | refine hS.ld rfl ?_ | refine hS.ldn rfl ?_ | (refine hS.st rfl rfl ?_; intro _ hS))
  rename_i w2
  refine Cl.mono (inForm_spec (hs.keep hS)) ?_
  rintro _ w3 ⟨⟨bv, rfl, hbv⟩, hS'⟩
  have hS := hS.call0 hS'
  cases bv with
  | false =>
    repeat (first | refine SemW.run tblOk ?_ | refine jA (by omega) ?_ | refine jB (by omega) ?_ | refine jC (by omega) ?_ | refine jD (by omega) ?_ | refine jE rfl ?_ | refine jF (by omega) ?_ | (refine jG ?_; first | with_reducible (first | refine jH ?_ | refine jI ?_ | refine jJ ?_ | refine jK ?_ | refine jL ?_) | refine jM (by omega) ?_ | refine jN (by omega) ?_ | with_reducible refine jM rfl ?_ | refine jM (by assumption) ?_ | refine jN (by assumption) ?_ | refine jM (by decide) ?_ | refine jN (by decide) ?_) | refine jF (ptr_ok tblOk rfl rfl) ?_ | refine jO (fun _ => by kernel_rfl) ?_ | refine jF (by decide) ?_ | refine hS.ld rfl ?_ | refine hS.ldn rfl ?_ | (refine hS.st rfl rfl ?_; intro _ hS))
    exact .inl ⟨fun h => (by have := hbv.2 h; cases this), rfl, hS.nil⟩
  | true =>
    have hIn := hbv.1 rfl
    have hS : St w [] [(b1, .cells ⟨stV s a b c ca cb cc⟩ T_api_State (0, 0))] w3 := hS
    have hS0 : St w [] ([] ++ [(b1, .cells ⟨stV s a b c ca cb cc⟩ T_api_State (0, 0))]) w3 := hS
    have hv0 : Vec T_api_Op 3 none 0 0 [] [] := Vec.nil
    unfold stV at hS
    repeat (first | refine SemW.run tblOk ?_ | refine jA (by omega) ?_ | refine jB (by omega) ?_ | refine jC (by omega) ?_ | refine jD (by omega) ?_ | refine jE rfl ?_ | refine jF (by omega) ?_ | (refine jG ?_; first | with_reducible (first | refine jH ?_ | refine jI ?_ | refine jJ ?_ | refine jK ?_ | refine jL ?_) | refine jM (by omega) ?_ | refine jN (by omega) ?_ | with_reducible refine jM rfl ?_ | refine jM (by assumption) ?_ | refine jN (by assumption) ?_ | refine jM (by decide) ?_ | refine jN (by decide) ?_) | refine jF (ptr_ok tblOk rfl rfl) ?_ | refine jO (fun _ => by kernel_rfl) ?_ | refine jF (by decide) ?_ | refine hS.ld rfl ?_ | refine hS.ldn rfl ?_ | (refine hS.st rfl rfl ?_; intro _ hS))
    obtain ⟨pre1, hp1⟩ : ∃ pre : List RecM, pre = [] := ⟨_, rfl⟩
    have hl1 : pre1.length = 0 := by rw [hp1]; rfl
    obtain ⟨pre2, hp2⟩ : ∃ pre : List RecM, pre = s.eqs.map eqRec := ⟨_, rfl⟩
    have hl2 : pre2.length = s.eqs.length := by rw [hp2]; simp
    obtain ⟨pre3, hp3⟩ : ∃ pre : List RecM, pre = pre2 ++ s.fls.map flRec := ⟨_, rfl⟩
    have hl3 : pre3.length = s.eqs.length + s.fls.length := by rw [hp3]; simp [hl2]
    have hv0 : Vec T_api_Op 3 none (pre1.length + 0) 0 ((pre1 ++ (s.eqs.take 0).map eqRec).flatMap opC) [] := by rw [hl1, hp1]; exact hv0
    rw [show Value.slice none 0 0 = Value.slice none (pre1.length + 0) 0 by rw [hl1]]
    refine SemW.loop (fun x : Nat × Option Addr × Nat => [(1, ptr b1), (4, .slice x.2.1 (pre1.length + x.1) x.2.2), (15, .slice a s.eqs.length ca), (16, .int .i64 s.eqs.length), (17, .int .i64 x.1)])
      (fun x w' => x.1 ≤ s.eqs.length ∧ ∃ L, Vec T_api_Op 3 x.2.1 (pre1.length + x.1) x.2.2 ((pre1 ++ (s.eqs.take x.1).map eqRec).flatMap opC) L ∧ St w [] (L ++ [(b1, .cells ⟨stV s a b c ca cb cc⟩ T_api_State (0, 0))]) w') (fun x => s.eqs.length - x.1) (0, none, 0)
      ⟨rfl, rfl, rfl, rfl, rfl, trivial⟩ ⟨Nat.zero_le _, _, by simpa using hv0, hS0⟩ ?_
    clear hS hS0 hS' hv0
    rintro ⟨k, a1, c1⟩ w4 ⟨hk, L1, hv, hS⟩
    simp only at hk hv hS ⊢
    by_cases hkl : k < s.eqs.length
    · obtain ⟨g, off, cs, hg, hR, hld⟩ := RSl.ldn hS.nil hs.eqs hkl
      have hsucc := recs_succ pre1 s.eqs eqRec k hkl
      have hat := sum_at s.eqs k hkl
      generalize s.eqs[k] = e at hR hsucc hat
      obtain ⟨v, rfl, hid, hrows⟩ := hR
      obtain ⟨a3, c3, rfl, -, -, hrows⟩ := hrows.inv
      have hok : ∀ r ∈ e.rows, r.ok := fun r hr => by obtain ⟨cs, h⟩ := hrows.mem hr; exact h.2
      subst hg
      repeat (first | refine SemW.run tblOk ?_ | refine jA (by omega) ?_ | refine jB (by omega) ?_ | refine jC (by omega) ?_ | refine jD (by omega) ?_ | refine jE rfl ?_ | refine jF (by omega) ?_ | (refine jG ?_; first | with_reducible (first | refine jH ?_ | refine jI ?_ | refine jJ ?_ | refine jK ?_ | refine jL ?_) | refine jM (by omega) ?_ | refine jN (by omega) ?_ | with_reducible refine jM rfl ?_ | refine jM (by assumption) ?_ | refine jN (by assumption) ?_ | refine jM (by decide) ?_ | refine jN (by decide) ?_) | refine jF (ptr_ok tblOk rfl rfl) ?_ | refine jO (fun _ => by kernel_rfl) ?_ | refine jF (by decide) ?_)
      refine hld _ ?_
      repeat (first | refine SemW.run tblOk ?_ | refine jA (by omega) ?_ | refine jB (by omega) ?_ | refine jC (by omega) ?_ | refine jD (by omega) ?_ | refine jE rfl ?_ | refine jF (by omega) ?_ | (refine jG ?_; first | with_reducible (first | refine jH ?_ | refine jI ?_ | refine jJ ?_ | refine jK ?_ | refine jL ?_) | refine jM (by omega) ?_ | refine jN (by omega) ?_ | with_reducible refine jM rfl ?_ | refine jM (by assumption) ?_ | refine jN (by assumption) ?_ | refine jM (by decide) ?_ | refine jN (by decide) ?_) | refine jF (ptr_ok tblOk rfl rfl) ?_ | refine jO (fun _ => by kernel_rfl) ?_ | refine jF (by decide) ?_)
      refine hS.al ?_
      intro b6 w5 _ hS
      repeat (first | refine SemW.run tblOk ?_ | refine jA (by omega) ?_ | refine jB (by omega) ?_ | refine jC (by omega) ?_ | refine jD (by omega) ?_ | refine jE rfl ?_ | refine jF (by omega) ?_ | (refine jG ?_; first | with_reducible (first | refine jH ?_ | refine jI ?_ | refine jJ ?_ | refine jK ?_ | refine jL ?_) | refine jM (by omega) ?_ | refine jN (by omega) ?_ | with_reducible refine jM rfl ?_ | refine jM (by assumption) ?_ | refine jN (by assumption) ?_ | refine jM (by decide) ?_ | refine jN (by decide) ?_) | refine jF (ptr_ok tblOk rfl rfl) ?_ | refine jO (fun _ => by kernel_rfl) ?_ | refine jF (by decide) ?_ | refine hS.ld rfl ?_ | refine hS.ldn rfl ?_ | (refine hS.st rfl rfl ?_; intro _ hS))
      rename_i w6
      have hS : St w [] ((b6, .cells ⟨[.int .i64 e.id, .slice a3 e.rows.length c3]⟩ T_api_Equip (0, 0)) :: (L1 ++ [(b1, .cells ⟨stV s (some ⟨g, off, none⟩) b c ca cb cc⟩ T_api_State (0, 0))])) w6 := hS
      refine SemW.draw tblOk mixed (fun w' => St w [] ((b6, .cells ⟨[.int .i64 e.id, .slice a3 e.rows.length c3]⟩ T_api_Equip (0, 0)) :: (L1 ++ [(b1, .cells ⟨stV s (some ⟨g, off, none⟩) b c ca cb cc⟩ T_api_State (0, 0))])) w') [8, 9] [0, 1, 2, 4, 3, 5, 6, 7, 8, 9] (by kernel_rfl) hS.drew ?_
      have hS := hS.drew
      generalize w6.drew = w6 at hS
      repeat (first | refine SemW.run tblOk ?_ | refine jA (by omega) ?_ | refine jB (by omega) ?_ | refine jC (by omega) ?_ | refine jD (by omega) ?_ | refine jE rfl ?_ | refine jF (by omega) ?_ | (refine jG ?_; first | with_reducible (first | refine jH ?_ | refine jI ?_ | refine jJ ?_ | refine jK ?_ | refine jL ?_) | refine jM (by omega) ?_ | refine jN (by omega) ?_ | with_reducible refine jM rfl ?_ | refine jM (by assumption) ?_ | refine jN (by assumption) ?_ | refine jM (by decide) ?_ | refine jN (by decide) ?_) | refine jF (ptr_ok tblOk rfl rfl) ?_ | refine jO (fun _ => by kernel_rfl) ?_ | refine jF (by decide) ?_ | refine hS.ldC rfl ?_ | refine hS.ldnC rfl ?_)
      refine Cl.mono (rkey_spec 101 (by decide) e.id hid) ?_
      rintro _ w7 ⟨rfl, hS'⟩
      have hS := hS.call0 hS'
      refine Chk.mk hS ?_
      repeat (first | refine SemW.run tblOk ?_ | refine jA (by omega) ?_ | refine jB (by omega) ?_ | refine jC (by omega) ?_ | refine jD (by omega) ?_ | refine jE rfl ?_ | refine jF (by omega) ?_ | (refine jG ?_; first | with_reducible (first | refine jH ?_ | refine jI ?_ | refine jJ ?_ | refine jK ?_ | refine jL ?_) | refine jM (by omega) ?_ | refine jN (by omega) ?_ | with_reducible refine jM rfl ?_ | refine jM (by assumption) ?_ | refine jN (by assumption) ?_ | refine jM (by decide) ?_ | refine jN (by decide) ?_) | refine jF (ptr_ok tblOk rfl rfl) ?_ | refine jO (fun _ => by kernel_rfl) ?_ | refine jF (by decide) ?_ | refine hS.ldC rfl ?_ | refine hS.ldnC rfl ?_)
      refine Cl.mono (equip_spec e (RSl.keep hS.nil (fun _ _ h => h) hrows) hok (by omega)) ?_
      rintro _ w8 ⟨rfl, hS'⟩
      have hS := hS.call0 hS'
      refine Chk.mk hS ?_
      repeat (first | refine SemW.run tblOk ?_ | refine jA (by omega) ?_ | refine jB (by omega) ?_ | refine jC (by omega) ?_ | refine jD (by omega) ?_ | refine jE rfl ?_ | refine jF (by omega) ?_ | (refine jG ?_; first | with_reducible (first | refine jH ?_ | refine jI ?_ | refine jJ ?_ | refine jK ?_ | refine jL ?_) | refine jM (by omega) ?_ | refine jN (by omega) ?_ | with_reducible refine jM rfl ?_ | refine jM (by assumption) ?_ | refine jN (by assumption) ?_ | refine jM (by decide) ?_ | refine jN (by decide) ?_) | refine jF (ptr_ok tblOk rfl rfl) ?_ | refine jO (fun _ => by kernel_rfl) ?_ | refine jF (by decide) ?_ | refine hS.ldC rfl ?_ | refine hS.ldnC rfl ?_)
      refine hS.al ?_
      intro r w9 _ hS
      refine Chk.mk (hS.sub (List.sublist_cons_self _ _)) ?_
      repeat (first | refine SemW.run tblOk ?_ | refine jA (by omega) ?_ | refine jB (by omega) ?_ | refine jC (by omega) ?_ | refine jD (by omega) ?_ | refine jE rfl ?_ | refine jF (by omega) ?_ | (refine jG ?_; first | with_reducible (first | refine jH ?_ | refine jI ?_ | refine jJ ?_ | refine jK ?_ | refine jL ?_) | refine jM (by omega) ?_ | refine jN (by omega) ?_ | with_reducible refine jM rfl ?_ | refine jM (by assumption) ?_ | refine jN (by assumption) ?_ | refine jM (by decide) ?_ | refine jN (by decide) ?_) | refine jF (ptr_ok tblOk rfl rfl) ?_ | refine jO (fun _ => by kernel_rfl) ?_ | refine jF (by decide) ?_ | refine hS.ldC rfl ?_ | refine hS.ldnC rfl ?_)
      refine St.app (sz := 3) (m := 1) tblOk rfl rfl rfl rfl hS hv (news := opC (eqRec e)) rfl (by have := hS.arr (b := r) (T' := []) (by simp); exact this) rfl (by show (_ + _) * 40 ≤ _; omega) (by omega) ?_
      intro a4 c4 L4 w10 hv hS
      rw [← hsucc] at hv
      repeat (first | refine SemW.run tblOk ?_ | refine jA (by omega) ?_ | refine jB (by omega) ?_ | refine jC (by omega) ?_ | refine jD (by omega) ?_ | refine jE rfl ?_ | refine jF (by omega) ?_ | (refine jG ?_; first | with_reducible (first | refine jH ?_ | refine jI ?_ | refine jJ ?_ | refine jK ?_ | refine jL ?_) | refine jM (by omega) ?_ | refine jN (by omega) ?_ | with_reducible refine jM rfl ?_ | refine jM (by assumption) ?_ | refine jN (by assumption) ?_ | refine jM (by decide) ?_ | refine jN (by decide) ?_) | refine jF (ptr_ok tblOk rfl rfl) ?_ | refine jO (fun _ => by kernel_rfl) ?_ | refine jF (by decide) ?_)
      exact ⟨(k + 1, a4, c4), ⟨rfl, rfl, rfl, rfl, rfl, trivial⟩, ⟨by simp only; omega, L4, hv, hS.sub ((List.sublist_cons_self _ _).trans (List.sublist_cons_self _ _))⟩, by simp only; omega⟩
    · have hke : k = s.eqs.length := by omega
      subst hke
      rw [List.take_length] at hv
      have hS0 := hS
      unfold stV at hS
      have hv0 := hv
      have hS' := hS
      rw [hp1, List.nil_append, ← hp2] at hv0
      have en : pre1.length + s.eqs.length = pre2.length + 0 := by omega
      rw [← hp1, en] at hv0
      rw [en]
      repeat (first | refine SemW.run tblOk ?_ | refine jA (by omega) ?_ | refine jB (by omega) ?_ | refine jC (by omega) ?_ | refine jD (by omega) ?_ | refine jE rfl ?_ | refine jF (by omega) ?_ | (refine jG ?_; first | with_reducible (first | refine jH ?_ | refine jI ?_ | refine jJ ?_ | refine jK ?_ | refine jL ?_) | refine jM (by omega) ?_ | refine jN (by omega) ?_ | with_reducible refine jM rfl ?_ | refine jM (by assumption) ?_ | refine jN (by assumption) ?_ | refine jM (by decide) ?_ | refine jN (by decide) ?_) | refine jF (ptr_ok tblOk rfl rfl) ?_ | refine jO (fun _ => by kernel_rfl) ?_ | refine jF (by decide) ?_ | refine hS.ld rfl ?_ | refine hS.ldn rfl ?_ | (refine hS.st rfl rfl ?_; intro _ hS))
      have hv0 : Vec T_api_Op 3 a1 (pre2.length + 0) c1 ((pre2 ++ (s.fls.take 0).map flRec).flatMap opC) L1 := by simpa using hv0
      refine SemW.loop (fun x : Nat × Option Addr × Nat => [(1, ptr b1), (4, .slice x.2.1 (pre2.length + x.1) x.2.2), (32, .slice b s.fls.length cb), (33, .int .i64 s.fls.length), (34, .int .i64 x.1)])
        (fun x w' => x.1 ≤ s.fls.length ∧ ∃ L, Vec T_api_Op 3 x.2.1 (pre2.length + x.1) x.2.2 ((pre2 ++ (s.fls.take x.1).map flRec).flatMap opC) L ∧ St w [] (L ++ [(b1, .cells ⟨stV s a b c ca cb cc⟩ T_api_State (0, 0))]) w') (fun x => s.fls.length - x.1) (0, a1, c1)
        ⟨rfl, rfl, rfl, rfl, rfl, trivial⟩ ⟨Nat.zero_le _, _, by simpa using hv0, hS0⟩ ?_
      clear hS hS0 hS' hv0
      rintro ⟨k, a1, c1⟩ w4 ⟨hk, L1, hv, hS⟩
      simp only at hk hv hS ⊢
      by_cases hkl : k < s.fls.length
      · obtain ⟨g, off, cs, hg, hR, hld⟩ := RSl.ldn hS.nil hs.fls hkl
        have hsucc := recs_succ pre2 s.fls flRec k hkl
        generalize s.fls[k] = e at hR hsucc
        obtain ⟨rfl, hok⟩ := hR
        subst hg
        repeat (first | refine SemW.run tblOk ?_ | refine jA (by omega) ?_ | refine jB (by omega) ?_ | refine jC (by omega) ?_ | refine jD (by omega) ?_ | refine jE rfl ?_ | refine jF (by omega) ?_ | (refine jG ?_; first | with_reducible (first | refine jH ?_ | refine jI ?_ | refine jJ ?_ | refine jK ?_ | refine jL ?_) | refine jM (by omega) ?_ | refine jN (by omega) ?_ | with_reducible refine jM rfl ?_ | refine jM (by assumption) ?_ | refine jN (by assumption) ?_ | refine jM (by decide) ?_ | refine jN (by decide) ?_) | refine jF (ptr_ok tblOk rfl rfl) ?_ | refine jO (fun _ => by kernel_rfl) ?_ | refine jF (by decide) ?_)
        refine hld _ ?_
        repeat (first | refine SemW.run tblOk ?_ | refine jA (by omega) ?_ | refine jB (by omega) ?_ | refine jC (by omega) ?_ | refine jD (by omega) ?_ | refine jE rfl ?_ | refine jF (by omega) ?_ | (refine jG ?_; first | with_reducible (first | refine jH ?_ | refine jI ?_ | refine jJ ?_ | refine jK ?_ | refine jL ?_) | refine jM (by omega) ?_ | refine jN (by omega) ?_ | with_reducible refine jM rfl ?_ | refine jM (by assumption) ?_ | refine jN (by assumption) ?_ | refine jM (by decide) ?_ | refine jN (by decide) ?_) | refine jF (ptr_ok tblOk rfl rfl) ?_ | refine jO (fun _ => by kernel_rfl) ?_ | refine jF (by decide) ?_)
        refine hS.al ?_
        intro b6 w5 _ hS
        repeat (first | refine SemW.run tblOk ?_ | refine jA (by omega) ?_ | refine jB (by omega) ?_ | refine jC (by omega) ?_ | refine jD (by omega) ?_ | refine jE rfl ?_ | refine jF (by omega) ?_ | (refine jG ?_; first | with_reducible (first | refine jH ?_ | refine jI ?_ | refine jJ ?_ | refine jK ?_ | refine jL ?_) | refine jM (by omega) ?_ | refine jN (by omega) ?_ | with_reducible refine jM rfl ?_ | refine jM (by assumption) ?_ | refine jN (by assumption) ?_ | refine jM (by decide) ?_ | refine jN (by decide) ?_) | refine jF (ptr_ok tblOk rfl rfl) ?_ | refine jO (fun _ => by kernel_rfl) ?_ | refine jF (by decide) ?_ | refine hS.ld rfl ?_ | refine hS.ldn rfl ?_ | (refine hS.st rfl rfl ?_; intro _ hS))
        rename_i w6
        have hS : St w [] ((b6, .cells ⟨flC e⟩ T_api_Flight (0, 0)) :: (L1 ++ [(b1, .cells ⟨stV s a (some ⟨g, off, none⟩) c ca cb cc⟩ T_api_State (0, 0))])) w6 := hS
        refine SemW.draw tblOk mixed (fun w' => St w [] ((b6, .cells ⟨flC e⟩ T_api_Flight (0, 0)) :: (L1 ++ [(b1, .cells ⟨stV s a (some ⟨g, off, none⟩) c ca cb cc⟩ T_api_State (0, 0))])) w') [8, 9] [0, 1, 2, 4, 3, 5, 6, 7, 8, 9] (by kernel_rfl) hS.drew ?_
        have hS := hS.drew
        generalize w6.drew = w6 at hS
        repeat (first | refine SemW.run tblOk ?_ | refine jA (by omega) ?_ | refine jB (by omega) ?_ | refine jC (by omega) ?_ | refine jD (by omega) ?_ | refine jE rfl ?_ | refine jF (by omega) ?_ | (refine jG ?_; first | with_reducible (first | refine jH ?_ | refine jI ?_ | refine jJ ?_ | refine jK ?_ | refine jL ?_) | refine jM (by omega) ?_ | refine jN (by omega) ?_ | with_reducible refine jM rfl ?_ | refine jM (by assumption) ?_ | refine jN (by assumption) ?_ | refine jM (by decide) ?_ | refine jN (by decide) ?_) | refine jF (ptr_ok tblOk rfl rfl) ?_ | refine jO (fun _ => by kernel_rfl) ?_ | refine jF (by decide) ?_ | refine hS.ldC rfl ?_ | refine hS.ldnC rfl ?_)
        refine Cl.mono (rkey_spec 102 (by decide) e.id hok.id) ?_
        rintro _ w7 ⟨rfl, hS'⟩
        have hS := hS.call0 hS'
        refine Chk.mk hS ?_
        repeat (first | refine SemW.run tblOk ?_ | refine jA (by omega) ?_ | refine jB (by omega) ?_ | refine jC (by omega) ?_ | refine jD (by omega) ?_ | refine jE rfl ?_ | refine jF (by omega) ?_ | (refine jG ?_; first | with_reducible (first | refine jH ?_ | refine jI ?_ | refine jJ ?_ | refine jK ?_ | refine jL ?_) | refine jM (by omega) ?_ | refine jN (by omega) ?_ | with_reducible refine jM rfl ?_ | refine jM (by assumption) ?_ | refine jN (by assumption) ?_ | refine jM (by decide) ?_ | refine jN (by decide) ?_) | refine jF (ptr_ok tblOk rfl rfl) ?_ | refine jO (fun _ => by kernel_rfl) ?_ | refine jF (by decide) ?_ | refine hS.ldC rfl ?_ | refine hS.ldnC rfl ?_)
        refine Cl.mono (flight_spec e hok) ?_
        rintro _ w8 ⟨rfl, hS'⟩
        have hS := hS.call0 hS'
        refine Chk.mk hS ?_
        repeat (first | refine SemW.run tblOk ?_ | refine jA (by omega) ?_ | refine jB (by omega) ?_ | refine jC (by omega) ?_ | refine jD (by omega) ?_ | refine jE rfl ?_ | refine jF (by omega) ?_ | (refine jG ?_; first | with_reducible (first | refine jH ?_ | refine jI ?_ | refine jJ ?_ | refine jK ?_ | refine jL ?_) | refine jM (by omega) ?_ | refine jN (by omega) ?_ | with_reducible refine jM rfl ?_ | refine jM (by assumption) ?_ | refine jN (by assumption) ?_ | refine jM (by decide) ?_ | refine jN (by decide) ?_) | refine jF (ptr_ok tblOk rfl rfl) ?_ | refine jO (fun _ => by kernel_rfl) ?_ | refine jF (by decide) ?_ | refine hS.ldC rfl ?_ | refine hS.ldnC rfl ?_)
        refine hS.al ?_
        intro r w9 _ hS
        refine Chk.mk (hS.sub (List.sublist_cons_self _ _)) ?_
        repeat (first | refine SemW.run tblOk ?_ | refine jA (by omega) ?_ | refine jB (by omega) ?_ | refine jC (by omega) ?_ | refine jD (by omega) ?_ | refine jE rfl ?_ | refine jF (by omega) ?_ | (refine jG ?_; first | with_reducible (first | refine jH ?_ | refine jI ?_ | refine jJ ?_ | refine jK ?_ | refine jL ?_) | refine jM (by omega) ?_ | refine jN (by omega) ?_ | with_reducible refine jM rfl ?_ | refine jM (by assumption) ?_ | refine jN (by assumption) ?_ | refine jM (by decide) ?_ | refine jN (by decide) ?_) | refine jF (ptr_ok tblOk rfl rfl) ?_ | refine jO (fun _ => by kernel_rfl) ?_ | refine jF (by decide) ?_ | refine hS.ldC rfl ?_ | refine hS.ldnC rfl ?_)
        refine St.app (sz := 3) (m := 1) tblOk rfl rfl rfl rfl hS hv (news := opC (flRec e)) rfl (by have := hS.arr (b := r) (T' := []) (by simp); exact this) rfl (by show (_ + _) * 40 ≤ _; omega) (by omega) ?_
        intro a4 c4 L4 w10 hv hS
        rw [← hsucc] at hv
        repeat (first | refine SemW.run tblOk ?_ | refine jA (by omega) ?_ | refine jB (by omega) ?_ | refine jC (by omega) ?_ | refine jD (by omega) ?_ | refine jE rfl ?_ | refine jF (by omega) ?_ | (refine jG ?_; first | with_reducible (first | refine jH ?_ | refine jI ?_ | refine jJ ?_ | refine jK ?_ | refine jL ?_) | refine jM (by omega) ?_ | refine jN (by omega) ?_ | with_reducible refine jM rfl ?_ | refine jM (by assumption) ?_ | refine jN (by assumption) ?_ | refine jM (by decide) ?_ | refine jN (by decide) ?_) | refine jF (ptr_ok tblOk rfl rfl) ?_ | refine jO (fun _ => by kernel_rfl) ?_ | refine jF (by decide) ?_)
        exact ⟨(k + 1, a4, c4), ⟨rfl, rfl, rfl, rfl, rfl, trivial⟩, ⟨by simp only; omega, L4, hv, hS.sub ((List.sublist_cons_self _ _).trans (List.sublist_cons_self _ _))⟩, by simp only; omega⟩
      · have hke : k = s.fls.length := by omega
        subst hke
        rw [List.take_length] at hv
        have hS0 := hS
        unfold stV at hS
        have hv0 := hv
        have hS' := hS
        rw [← hp3] at hv0
        have en : pre2.length + s.fls.length = pre3.length + 0 := by omega
        rw [en] at hv0
        rw [en]
        repeat (first | refine SemW.run tblOk ?_ | refine jA (by omega) ?_ | refine jB (by omega) ?_ | refine jC (by omega) ?_ | refine jD (by omega) ?_ | refine jE rfl ?_ | refine jF (by omega) ?_ | (refine jG ?_; first | with_reducible (first | refine jH ?_ | refine jI ?_ | refine jJ ?_ | refine jK ?_ | refine jL ?_) | refine jM (by omega) ?_ | refine jN (by omega) ?_ | with_reducible refine jM rfl ?_ | refine jM (by assumption) ?_ | refine jN (by assumption) ?_ | refine jM (by decide) ?_ | refine jN (by decide) ?_) | refine jF (ptr_ok tblOk rfl rfl) ?_ | refine jO (fun _ => by kernel_rfl) ?_ | refine jF (by decide) ?_ | refine hS.ld rfl ?_ | refine hS.ldn rfl ?_ | (refine hS.st rfl rfl ?_; intro _ hS))
        have hv0 : Vec T_api_Op 3 a1 (pre3.length + 0) c1 ((pre3 ++ (s.pxs.take 0).map pxRec).flatMap opC) L1 := by simpa using hv0
        refine SemW.loop (fun x : Nat × Option Addr × Nat => [(1, ptr b1), (4, .slice x.2.1 (pre3.length + x.1) x.2.2), (49, .slice c s.pxs.length cc), (50, .int .i64 s.pxs.length), (51, .int .i64 x.1)])
          (fun x w' => x.1 ≤ s.pxs.length ∧ ∃ L, Vec T_api_Op 3 x.2.1 (pre3.length + x.1) x.2.2 ((pre3 ++ (s.pxs.take x.1).map pxRec).flatMap opC) L ∧ St w [] (L ++ [(b1, .cells ⟨stV s a b c ca cb cc⟩ T_api_State (0, 0))]) w') (fun x => s.pxs.length - x.1) (0, a1, c1)
          ⟨rfl, rfl, rfl, rfl, rfl, trivial⟩ ⟨Nat.zero_le _, _, by simpa using hv0, hS0⟩ ?_
        clear hS hS0 hS' hv0
        rintro ⟨k, a1, c1⟩ w4 ⟨hk, L1, hv, hS⟩
        simp only at hk hv hS ⊢
        by_cases hkl : k < s.pxs.length
        · obtain ⟨g, off, cs, hg, hR, hld⟩ := RSl.ldn hS.nil hs.pxs hkl
          have hsucc := recs_succ pre3 s.pxs pxRec k hkl
          generalize s.pxs[k] = e at hR hsucc
          obtain ⟨rfl, hok⟩ := hR
          subst hg
          repeat (first | refine SemW.run tblOk ?_ | refine jA (by omega) ?_ | refine jB (by omega) ?_ | refine jC (by omega) ?_ | refine jD (by omega) ?_ | refine jE rfl ?_ | refine jF (by omega) ?_ | (refine jG ?_; first | with_reducible (first | refine jH ?_ | refine jI ?_ | refine jJ ?_ | refine jK ?_ | refine jL ?_) | refine jM (by omega) ?_ | refine jN (by omega) ?_ | with_reducible refine jM rfl ?_ | refine jM (by assumption) ?_ | refine jN (by assumption) ?_ | refine jM (by decide) ?_ | refine jN (by decide) ?_) | refine jF (ptr_ok tblOk rfl rfl) ?_ | refine jO (fun _ => by kernel_rfl) ?_ | refine jF (by decide) ?_)
          refine hld _ ?_
          repeat (first | refine SemW.run tblOk ?_ | refine jA (by omega) ?_ | refine jB (by omega) ?_ | refine jC (by omega) ?_ | refine jD (by omega) ?_ | refine jE rfl ?_ | refine jF (by omega) ?_ | (refine jG ?_; first | with_reducible (first | refine jH ?_ | refine jI ?_ | refine jJ ?_ | refine jK ?_ | refine jL ?_) | refine jM (by omega) ?_ | refine jN (by omega) ?_ | with_reducible refine jM rfl ?_ | refine jM (by assumption) ?_ | refine jN (by assumption) ?_ | refine jM (by decide) ?_ | refine jN (by decide) ?_) | refine jF (ptr_ok tblOk rfl rfl) ?_ | refine jO (fun _ => by kernel_rfl) ?_ | refine jF (by decide) ?_)
          refine hS.al ?_
          intro b6 w5 _ hS
          repeat (first | refine SemW.run tblOk ?_ | refine jA (by omega) ?_ | refine jB (by omega) ?_ | refine jC (by omega) ?_ | refine jD (by omega) ?_ | refine jE rfl ?_ | refine jF (by omega) ?_ | (refine jG ?_; first | with_reducible (first | refine jH ?_ | refine jI ?_ | refine jJ ?_ | refine jK ?_ | refine jL ?_) | refine jM (by omega) ?_ | refine jN (by omega) ?_ | with_reducible refine jM rfl ?_ | refine jM (by assumption) ?_ | refine jN (by assumption) ?_ | refine jM (by decide) ?_ | refine jN (by decide) ?_) | refine jF (ptr_ok tblOk rfl rfl) ?_ | refine jO (fun _ => by kernel_rfl) ?_ | refine jF (by decide) ?_ | refine hS.ld rfl ?_ | refine hS.ldn rfl ?_ | (refine hS.st rfl rfl ?_; intro _ hS))
          rename_i w6
          have hS : St w [] ((b6, .cells ⟨paxC e⟩ T_api_Pax (0, 0)) :: (L1 ++ [(b1, .cells ⟨stV s a b (some ⟨g, off, none⟩) ca cb cc⟩ T_api_State (0, 0))])) w6 := hS
          refine SemW.draw tblOk mixed (fun w' => St w [] ((b6, .cells ⟨paxC e⟩ T_api_Pax (0, 0)) :: (L1 ++ [(b1, .cells ⟨stV s a b (some ⟨g, off, none⟩) ca cb cc⟩ T_api_State (0, 0))])) w') [8, 9] [0, 1, 2, 4, 3, 5, 6, 7, 8, 9] (by kernel_rfl) hS.drew ?_
          have hS := hS.drew
          generalize w6.drew = w6 at hS
          repeat (first | refine SemW.run tblOk ?_ | refine jA (by omega) ?_ | refine jB (by omega) ?_ | refine jC (by omega) ?_ | refine jD (by omega) ?_ | refine jE rfl ?_ | refine jF (by omega) ?_ | (refine jG ?_; first | with_reducible (first | refine jH ?_ | refine jI ?_ | refine jJ ?_ | refine jK ?_ | refine jL ?_) | refine jM (by omega) ?_ | refine jN (by omega) ?_ | with_reducible refine jM rfl ?_ | refine jM (by assumption) ?_ | refine jN (by assumption) ?_ | refine jM (by decide) ?_ | refine jN (by decide) ?_) | refine jF (ptr_ok tblOk rfl rfl) ?_ | refine jO (fun _ => by kernel_rfl) ?_ | refine jF (by decide) ?_ | refine hS.ldC rfl ?_ | refine hS.ldnC rfl ?_)
          refine Cl.mono (rkey_spec 112 (by decide) e.id hok.id) ?_
          rintro _ w7 ⟨rfl, hS'⟩
          have hS := hS.call0 hS'
          refine Chk.mk hS ?_
          repeat (first | refine SemW.run tblOk ?_ | refine jA (by omega) ?_ | refine jB (by omega) ?_ | refine jC (by omega) ?_ | refine jD (by omega) ?_ | refine jE rfl ?_ | refine jF (by omega) ?_ | (refine jG ?_; first | with_reducible (first | refine jH ?_ | refine jI ?_ | refine jJ ?_ | refine jK ?_ | refine jL ?_) | refine jM (by omega) ?_ | refine jN (by omega) ?_ | with_reducible refine jM rfl ?_ | refine jM (by assumption) ?_ | refine jN (by assumption) ?_ | refine jM (by decide) ?_ | refine jN (by decide) ?_) | refine jF (ptr_ok tblOk rfl rfl) ?_ | refine jO (fun _ => by kernel_rfl) ?_ | refine jF (by decide) ?_ | refine hS.ldC rfl ?_ | refine hS.ldnC rfl ?_)
          refine Cl.mono (pax_spec e hok) ?_
          rintro _ w8 ⟨rfl, hS'⟩
          have hS := hS.call0 hS'
          refine Chk.mk hS ?_
          repeat (first | refine SemW.run tblOk ?_ | refine jA (by omega) ?_ | refine jB (by omega) ?_ | refine jC (by omega) ?_ | refine jD (by omega) ?_ | refine jE rfl ?_ | refine jF (by omega) ?_ | (refine jG ?_; first | with_reducible (first | refine jH ?_ | refine jI ?_ | refine jJ ?_ | refine jK ?_ | refine jL ?_) | refine jM (by omega) ?_ | refine jN (by omega) ?_ | with_reducible refine jM rfl ?_ | refine jM (by assumption) ?_ | refine jN (by assumption) ?_ | refine jM (by decide) ?_ | refine jN (by decide) ?_) | refine jF (ptr_ok tblOk rfl rfl) ?_ | refine jO (fun _ => by kernel_rfl) ?_ | refine jF (by decide) ?_ | refine hS.ldC rfl ?_ | refine hS.ldnC rfl ?_)
          refine hS.al ?_
          intro r w9 _ hS
          refine Chk.mk (hS.sub (List.sublist_cons_self _ _)) ?_
          repeat (first | refine SemW.run tblOk ?_ | refine jA (by omega) ?_ | refine jB (by omega) ?_ | refine jC (by omega) ?_ | refine jD (by omega) ?_ | refine jE rfl ?_ | refine jF (by omega) ?_ | (refine jG ?_; first | with_reducible (first | refine jH ?_ | refine jI ?_ | refine jJ ?_ | refine jK ?_ | refine jL ?_) | refine jM (by omega) ?_ | refine jN (by omega) ?_ | with_reducible refine jM rfl ?_ | refine jM (by assumption) ?_ | refine jN (by assumption) ?_ | refine jM (by decide) ?_ | refine jN (by decide) ?_) | refine jF (ptr_ok tblOk rfl rfl) ?_ | refine jO (fun _ => by kernel_rfl) ?_ | refine jF (by decide) ?_ | refine hS.ldC rfl ?_ | refine hS.ldnC rfl ?_)
          refine St.app (sz := 3) (m := 1) tblOk rfl rfl rfl rfl hS hv (news := opC (pxRec e)) rfl (by have := hS.arr (b := r) (T' := []) (by simp); exact this) rfl (by show (_ + _) * 40 ≤ _; omega) (by omega) ?_
          intro a4 c4 L4 w10 hv hS
          rw [← hsucc] at hv
          repeat (first | refine SemW.run tblOk ?_ | refine jA (by omega) ?_ | refine jB (by omega) ?_ | refine jC (by omega) ?_ | refine jD (by omega) ?_ | refine jE rfl ?_ | refine jF (by omega) ?_ | (refine jG ?_; first | with_reducible (first | refine jH ?_ | refine jI ?_ | refine jJ ?_ | refine jK ?_ | refine jL ?_) | refine jM (by omega) ?_ | refine jN (by omega) ?_ | with_reducible refine jM rfl ?_ | refine jM (by assumption) ?_ | refine jN (by assumption) ?_ | refine jM (by decide) ?_ | refine jN (by decide) ?_) | refine jF (ptr_ok tblOk rfl rfl) ?_ | refine jO (fun _ => by kernel_rfl) ?_ | refine jF (by decide) ?_)
          exact ⟨(k + 1, a4, c4), ⟨rfl, rfl, rfl, rfl, rfl, trivial⟩, ⟨by simp only; omega, L4, hv, hS.sub ((List.sublist_cons_self _ _).trans (List.sublist_cons_self _ _))⟩, by simp only; omega⟩
        · have hke : k = s.pxs.length := by omega
          subst hke
          rw [List.take_length] at hv
          have hS0 := hS
          unfold stV at hS
          have hv0 := hv
          have hS' := hS
          have er : pre3 ++ s.pxs.map pxRec = recs s := by rw [hp3, hp2]; rfl
          have en : pre3.length + s.pxs.length = (recs s).length := by rw [← er]; simp
          rw [er, en] at hv0
          rw [en]
          repeat (first | refine SemW.run tblOk ?_ | refine jA (by omega) ?_ | refine jB (by omega) ?_ | refine jC (by omega) ?_ | refine jD (by omega) ?_ | refine jE rfl ?_ | refine jF (by omega) ?_ | (refine jG ?_; first | with_reducible (first | refine jH ?_ | refine jI ?_ | refine jJ ?_ | refine jK ?_ | refine jL ?_) | refine jM (by omega) ?_ | refine jN (by omega) ?_ | with_reducible refine jM rfl ?_ | refine jM (by assumption) ?_ | refine jN (by assumption) ?_ | refine jM (by decide) ?_ | refine jN (by decide) ?_) | refine jF (ptr_ok tblOk rfl rfl) ?_ | refine jO (fun _ => by kernel_rfl) ?_ | refine jF (by decide) ?_)
          exact .inr ⟨hIn, a1, c1, L1, rfl, hv0, hS.sub (List.sublist_append_left _ _)⟩
end Go.Proofs.YthpmmfapolcaiaaGreatDoor

/- Plain: bytes in order. -/
namespace Go.Proofs.YthpmmfapolcaiaaGreatDoor
open Go Go.Eng Go.Proofs
theorem bless_cons (x y : UInt8) (xs ys : Bytes) : Op.bytesLess (x :: xs) (y :: ys) = (decide (x.toNat < y.toNat) || (decide (x.toNat = y.toNat) && Op.bytesLess xs ys)) := less_cons x y xs ys
theorem bless_irrefl : ∀ x : Bytes, Op.bytesLess x x = false
  | [] => rfl
  | c :: x => by rw [bless_cons, bless_irrefl x]; simp
theorem bless_nil (x : Bytes) : Op.bytesLess x [] = false := by cases x <;> rfl
theorem bless_trans : ∀ x y z : Bytes, Op.bytesLess x y = true → Op.bytesLess y z = true → Op.bytesLess x z = true
  | _, [], _, h, _ => by rw [bless_nil] at h; cases h
  | _, _ :: _, [], _, h => by rw [bless_nil] at h; cases h
  | [], _ :: _, _ :: _, _, _ => rfl
  | a :: x, b :: y, c :: z, h1, h2 => by
    rw [bless_cons] at h1 h2 ⊢
    simp only [Bool.or_eq_true, Bool.and_eq_true, decide_eq_true_eq] at h1 h2 ⊢
    rcases h1 with h1 | ⟨h1, h1'⟩
    · rcases h2 with h2 | ⟨h2, -⟩
      · exact .inl (Nat.lt_trans h1 h2)
      · exact .inl (h2 ▸ h1)
    · rcases h2 with h2 | ⟨h2, h2'⟩
      · exact .inl (h1 ▸ h2)
      · exact .inr ⟨h1.trans h2, bless_trans x y z h1' h2'⟩
theorem bless_tri : ∀ x y : Bytes, Op.bytesLess x y = true ∨ x = y ∨ Op.bytesLess y x = true
  | [], [] => .inr (.inl rfl)
  | [], _ :: _ => .inl rfl
  | _ :: _, [] => .inr (.inr rfl)
  | a :: x, b :: y => by
    rw [bless_cons, bless_cons]
    simp only [Bool.or_eq_true, Bool.and_eq_true, decide_eq_true_eq]
    rcases Nat.lt_trichotomy a.toNat b.toNat with h | h | h
    · exact .inl (.inl h)
    · rcases bless_tri x y with h2 | h2 | h2
      · exact .inl (.inr ⟨h, h2⟩)
      · exact .inr (.inl (by rw [UInt8.toNat_inj.1 h, h2]))
      · exact .inr (.inr (.inr ⟨h.symm, h2⟩))
    · exact .inr (.inr (.inl h))
theorem bless_asym {x y : Bytes} (h : Op.bytesLess x y = true) : Op.bytesLess y x = false := by
  cases h2 : Op.bytesLess y x with
  | false => rfl
  | true => have := bless_trans x y x h h2; rw [bless_irrefl] at this; cases this
end Go.Proofs.YthpmmfapolcaiaaGreatDoor
