/- Texts of this claim, one behind the other. -/
import Derived.Test.YthpmmfapolcaiaaDoorZ3
import Derived.Test.YthpmmfapolcaiaaDoorZ0
import Derived.Laws.StructEq
import Derived.Test.YthpmmfapolcaiaaDoorZ2
import Derived.ChangeKeysEq
import Derived.Lib.SliceRun
/- Package wire: a command's fields, written. -/
namespace Go.Eng
open Go
theorem St.cellNew {w0 w : World} {T : List Nat} {H L : Heap} {F : Heap → Heap} (hS : St w0 T H w) [hc : Chunk H L F] {b o : Nat} {v : Value} (h2 : b ∉ T) (h3 : w0.cell? ⟨b, o, none⟩ = some v) : b ∉ keys L ∧ w.cell? ⟨b, o, none⟩ = some v := by
  refine ⟨fun hm => ?_, hS.oldCell (a := ⟨b, o, none⟩) h2 h3⟩
  obtain ⟨A, B, hH, _⟩ := hc.at_
  obtain ⟨p, hp, rfl⟩ := List.mem_map.1 hm
  refine h2 (hS.fresh p (by rw [hH]; simp [hp]) ?_)
  cases hb : w0.heap[p.1]? with
  | none => simp [World.cell?, hb] at h3
  | some o => exact (Array.getElem?_eq_some_iff.1 hb).1
end Go.Eng
namespace Go.Proofs.YthpmmfapolcaiaaDoor
open Go Go.Eng Go.Proofs
abbrev cmdC (c : CmdM) (a : Option Addr) (cap : Nat) : List Value := [.int .i64 c.kind, .int .i64 c.req, .int .i64 c.id, .int .i64 c.fl, .int .i64 c.eq, .int .i64 c.cls, .int .i64 c.wcab, .bool c.fit, .bool c.inf, .bool c.vol, .bool c.stb, .int .i64 c.num, .int .u8 c.lt, .slice a c.rows.length cap, .int .i64 c.l0, .int .i64 c.l1, .int .i64 c.l2, .int .i64 c.l3, Str c.text]
theorem ptrsAt_nil {w : World} {T : List Nat} : PtrsAt w T [] [] := fun j h => by simp at h
theorem ptrsAt_cons {w : World} {T : List Nat} {p : Nat × Nat} {ps : List (Nat × Nat)} {v : Value} {vs : List Value} (h1 : p.1 ∉ T ∧ w.cell? ⟨p.1, p.2, none⟩ = some v) (h2 : PtrsAt w T ps vs) : PtrsAt w T (p :: ps) (v :: vs) := fun j hj hj2 => by
  cases j with
  | zero => exact h1
  | succ j => exact h2 j (by simpa using hj) (by simpa using hj2)
theorem flatRow_at (rs : List RowM) (k : Nat) (hk : k < rs.length) (j : Nat) (hj : j < 5) : (rs.flatMap rowC)[k * 5 + j]? = (rowC rs[k])[j]? := by
  induction rs generalizing k with
  | nil => simp at hk
  | cons r rs ih =>
    have hl : (rowC r).length = 5 := rfl
    rw [List.flatMap_cons]
    cases k with
    | zero => rw [List.getElem?_append_left (by omega), Nat.zero_mul, Nat.zero_add]; rfl
    | succ k =>
      rw [List.getElem?_append_right (by omega), hl, show (k + 1) * 5 + j - 5 = k * 5 + j by omega]
      exact ih k (by simpa using hk)
theorem flatRow_len (rs : List RowM) : (rs.flatMap rowC).length = rs.length * 5 := by
  induction rs with
  | nil => rfl
  | cons r rs ih => rw [List.flatMap_cons, List.length_append, ih, List.length_cons]; show 5 + _ = _; omega
theorem rowCells {w : World} {T : List Nat} {a : Option Addr} {rs : List RowM} (ha : Arr w T a (rs.flatMap rowC)) {k : Nat} (hk : k < rs.length) :
    ∃ g off, a = some ⟨g, off, none⟩ ∧ g ∉ T ∧ ∀ j v, (rowC rs[k])[j]? = some v → w.cell? ⟨g, off + k * 5 + j, none⟩ = some v := by
  have hl := flatRow_len rs
  obtain ⟨g, off, h1, h2, -⟩ := ha.get (j := k * 5) (by omega)
  refine ⟨g, off, h1, h2, fun j v hj => ?_⟩
  have hj5 : j < 5 := (List.getElem?_eq_some_iff.1 hj).1
  obtain ⟨g', off', h1', -, h3⟩ := ha (k * 5 + j) v (by rw [flatRow_at rs k hk j hj5]; exact hj)
  rw [h1] at h1'
  simp only [Option.some.injEq, Addr.mk.injEq, and_true] at h1'
  obtain ⟨rfl, rfl⟩ := h1'
  rw [Nat.add_assoc]
  exact h3
/-- What of a command the writer needs to know. -/
structure CmdAt (w : World) (T : List Nat) (cb : Nat) (c : CmdM) (a : Option Addr) (cap : Nat) : Prop where
  out : cb ∉ T
  cell : ∀ j v, (cmdC c a cap)[j]? = some v → w.cell? ⟨cb, j, none⟩ = some v
  rows : Arr w T a (c.rows.flatMap rowC)
  ok : c.ok
  nr : c.rows.length ≤ 20
  nt : c.text.length ≤ 200
  ns : ∀ r ∈ c.rows, r.seats.length ≤ 40
theorem rowsW_le {rs : List RowM} (h : ∀ r ∈ rs, r.seats.length ≤ 40) : rowsW rs ≤ 46 * rs.length := by
  induction rs with
  | nil => simp [rowsW]
  | cons r rs ih =>
    have h1 := h r List.mem_cons_self
    have h2 := ih fun q hq => h q (List.mem_cons_of_mem _ hq)
    unfold rowsW at h2 ⊢
    rw [List.map_cons, List.sum_cons, List.length_cons]; omega
set_option maxRecDepth 4000 in
set_option maxHeartbeats 4000000 in
theorem command_wr {w : World} {pb : Nat} {bs : Bytes} {L : Heap} (hW : PackW pb bs L) (hh : Holds L w) {cb : Nat} {c : CmdM} {a : Option Addr} {cap : Nat} (hA : CmdAt w (keys L) cb c a cap) (hlen : bs.length ≤ 100) :
    Cl Tryd.prog f_wire_command [.iface T_wire_writer (wrV pb), ptr cb] w fun _ w' => ∃ L', PackW pb (bs ++ fieldsB (ckOf c.kind) c) L' ∧ St w (keys L) L' w' := by
  have hS := St.enter hh
  have hok := hA.ok
  have hnr := hA.nr
  have hnt := hA.nt
  have hi1 := ints_len [c.id] (all1 hok.id).2
  have hi2 := ints_len [c.id, c.eq] (all2 hok.id hok.eq).2
  have hi3 := ints_len [c.id, c.num] (all2 hok.id hok.num).2
  have hi4 := ints_len [c.id, c.fl, c.wcab, c.cls] (all4 hok.id hok.fl hok.wcab hok.cls).2
  have hn1 := numB_len10 c.rows.length (by omega)
  simp only [List.length_cons, List.length_nil] at hi1 hi2 hi3 hi4
  generalize hT : keys L = T0 at hS hA ⊢
  refine en_wire_command rfl ?_
  repeat (first | refine SemW.run tblOk ?_ | refine jA (by omega) ?_ | refine jB (by omega) ?_ | refine jC (by omega) ?_ | refine jD (by omega) ?_ | refine jE rfl ?_ | refine jF (by omega) ?_ | (refine jG ?_; first | with_reducible (first | refine jH ?_ | refine jI ?_ | refine jJ ?_ | refine jK ?_ | refine jL ?_) | refine jM (by omega) ?_ | refine jN (by omega) ?_ | with_reducible refine jM rfl ?_ | refine jM (by assumption) ?_ | refine jN (by assumption) ?_ | refine jM (by decide) ?_ | refine jN (by decide) ?_) | refine jF (ptr_ok tblOk rfl rfl) ?_ | refine jO (fun _ => by kernel_rfl) ?_ | refine jF (by decide) ?_)
  refine hS.ldOld hA.out (hA.cell 0 _ rfl) ?_
  unfold ckOf
  by_cases h1 : c.kind = 1
  · rw [if_pos h1]
    simp only [fieldsB]
    repeat (first | refine SemW.run tblOk ?_ | refine jA (by omega) ?_ | refine jB (by omega) ?_ | refine jC (by omega) ?_ | refine jD (by omega) ?_ | refine jE rfl ?_ | refine jF (by omega) ?_ | (refine jG ?_; first | with_reducible (first | refine jH ?_ | refine jI ?_ | refine jJ ?_ | refine jK ?_ | refine jL ?_) | refine jM (by omega) ?_ | refine jN (by omega) ?_ | with_reducible refine jM rfl ?_ | refine jM (by assumption) ?_ | refine jN (by assumption) ?_ | refine jM (by decide) ?_ | refine jN (by decide) ?_) | refine jF (ptr_ok tblOk rfl rfl) ?_ | refine jO (fun _ => by kernel_rfl) ?_ | refine jF (by decide) ?_)
    refine SemW.draw tblOk mixed (fun w' => St w T0 L w') [8] [0, 1, 2, 3, 5, 6, 7, 4, 8] (by kernel_rfl) hS.drew ?_
    have hS := hS.drew
    repeat (first | refine SemW.run tblOk ?_ | refine jA (by omega) ?_ | refine jB (by omega) ?_ | refine jC (by omega) ?_ | refine jD (by omega) ?_ | refine jE rfl ?_ | refine jF (by omega) ?_ | (refine jG ?_; first | with_reducible (first | refine jH ?_ | refine jI ?_ | refine jJ ?_ | refine jK ?_ | refine jL ?_) | refine jM (by omega) ?_ | refine jN (by omega) ?_ | with_reducible refine jM rfl ?_ | refine jM (by assumption) ?_ | refine jN (by assumption) ?_ | refine jM (by decide) ?_ | refine jN (by decide) ?_) | refine jF (ptr_ok tblOk rfl rfl) ?_ | refine jO (fun _ => by kernel_rfl) ?_ | refine jF (by decide) ?_ | refine hS.ldC rfl ?_ | refine hS.ldnC rfl ?_)
    refine hS.al ?_
    intro r w3 _ hS
    refine Chk.mk (hS.sub (List.sublist_cons_self _ _)) ?_
    repeat (first | refine SemW.run tblOk ?_ | refine jA (by omega) ?_ | refine jB (by omega) ?_ | refine jC (by omega) ?_ | refine jD (by omega) ?_ | refine jE rfl ?_ | refine jF (by omega) ?_ | (refine jG ?_; first | with_reducible (first | refine jH ?_ | refine jI ?_ | refine jJ ?_ | refine jK ?_ | refine jL ?_) | refine jM (by omega) ?_ | refine jN (by omega) ?_ | with_reducible refine jM rfl ?_ | refine jM (by assumption) ?_ | refine jN (by assumption) ?_ | refine jM (by decide) ?_ | refine jN (by decide) ?_) | refine jF (ptr_ok tblOk rfl rfl) ?_ | refine jO (fun _ => by kernel_rfl) ?_ | refine jF (by decide) ?_ | refine hS.ldC rfl ?_ | refine hS.ldnC rfl ?_)
    have hcell : ∀ j v, (cmdC c a cap)[j]? = some v → cb ∉ keys L ∧ w3.cell? ⟨cb, j, none⟩ = some v := fun j v h => hS.cellNew (L := L) hA.out (hA.cell j v h)
    refine InvG.mk ⟨f_wire_writer_int, wrV pb, by kernel_rfl, ?_⟩
    refine Cl.mono (wint_spec hW (hS.part (L := L)) (ps := [(cb, 2)]) (zs := [c.id]) (hS.arr (b := r) (nodup_chunk hS)) rfl (ptrsAt_cons (hcell 2 _ rfl) ptrsAt_nil) (all1 hok.id).2 (by simp only [List.length_append, List.length_cons, List.length_nil]; omega)) ?_
    rintro _ w4 ⟨L1, hW, hS'⟩
    have hS := (hS.call (L := L) hS').sub (List.sublist_cons_self _ _)
    repeat (first | refine SemW.run tblOk ?_ | refine jA (by omega) ?_ | refine jB (by omega) ?_ | refine jC (by omega) ?_ | refine jD (by omega) ?_ | refine jE rfl ?_ | refine jF (by omega) ?_ | (refine jG ?_; first | with_reducible (first | refine jH ?_ | refine jI ?_ | refine jJ ?_ | refine jK ?_ | refine jL ?_) | refine jM (by omega) ?_ | refine jN (by omega) ?_ | with_reducible refine jM rfl ?_ | refine jM (by assumption) ?_ | refine jN (by assumption) ?_ | refine jM (by decide) ?_ | refine jN (by decide) ?_) | refine jF (ptr_ok tblOk rfl rfl) ?_ | refine jO (fun _ => by kernel_rfl) ?_ | refine jF (by decide) ?_)
    refine SemW.draw tblOk mixed (fun w' => St w T0 L1 w') [9, 10] [0, 1, 2, 3, 4, 5, 6, 7, 8, 9, 10] (by kernel_rfl) hS.drew ?_
    have hS := hS.drew
    repeat (first | refine SemW.run tblOk ?_ | refine jA (by omega) ?_ | refine jB (by omega) ?_ | refine jC (by omega) ?_ | refine jD (by omega) ?_ | refine jE rfl ?_ | refine jF (by omega) ?_ | (refine jG ?_; first | with_reducible (first | refine jH ?_ | refine jI ?_ | refine jJ ?_ | refine jK ?_ | refine jL ?_) | refine jM (by omega) ?_ | refine jN (by omega) ?_ | with_reducible refine jM rfl ?_ | refine jM (by assumption) ?_ | refine jN (by assumption) ?_ | refine jM (by decide) ?_ | refine jN (by decide) ?_) | refine jF (ptr_ok tblOk rfl rfl) ?_ | refine jO (fun _ => by kernel_rfl) ?_ | refine jF (by decide) ?_ | refine hS.ldC rfl ?_ | refine hS.ldnC rfl ?_)
    refine hS.ldOldC hA.out (hA.cell 13 _ rfl) ?_
    repeat (first | refine SemW.run tblOk ?_ | refine jA (by omega) ?_ | refine jB (by omega) ?_ | refine jC (by omega) ?_ | refine jD (by omega) ?_ | refine jE rfl ?_ | refine jF (by omega) ?_ | (refine jG ?_; first | with_reducible (first | refine jH ?_ | refine jI ?_ | refine jJ ?_ | refine jK ?_ | refine jL ?_) | refine jM (by omega) ?_ | refine jN (by omega) ?_ | with_reducible refine jM rfl ?_ | refine jM (by assumption) ?_ | refine jN (by assumption) ?_ | refine jM (by decide) ?_ | refine jN (by decide) ?_) | refine jF (ptr_ok tblOk rfl rfl) ?_ | refine jO (fun _ => by kernel_rfl) ?_ | refine jF (by decide) ?_ | refine hS.ldC rfl ?_ | refine hS.ldnC rfl ?_)
    refine InvG.mk ⟨f_wire_writer_count, wrV pb, by kernel_rfl, ?_⟩
    refine Cl.mono (wcount_spec hW (hS.part (L := L1)) (n := c.rows.length) (by omega) (by simp only [List.length_append]; omega)) ?_
    rintro _ w5 ⟨rfl, L2, hW, hS'⟩
    have hS := hS.call (L := L1) hS'
    repeat (first | refine SemW.run tblOk ?_ | refine jA (by omega) ?_ | refine jB (by omega) ?_ | refine jC (by omega) ?_ | refine jD (by omega) ?_ | refine jE rfl ?_ | refine jF (by omega) ?_ | (refine jG ?_; first | with_reducible (first | refine jH ?_ | refine jI ?_ | refine jJ ?_ | refine jK ?_ | refine jL ?_) | refine jM (by omega) ?_ | refine jN (by omega) ?_ | with_reducible refine jM rfl ?_ | refine jM (by assumption) ?_ | refine jN (by assumption) ?_ | refine jM (by decide) ?_ | refine jN (by decide) ?_) | refine jF (ptr_ok tblOk rfl rfl) ?_ | refine jO (fun _ => by kernel_rfl) ?_ | refine jF (by decide) ?_)
    refine SemW.loop (fun k : Nat => [(0, .iface T_wire_writer (wrV pb)), (1, ptr cb), (42, .int .i64 c.rows.length), (43, .int .i64 k)])
      (fun k w' => k ≤ c.rows.length ∧ ∃ L', PackW pb (bs ++ intsB [c.id] ++ numB c.rows.length ++ rowsBt (c.rows.take k)) L' ∧ St w T0 L' w') (fun k => c.rows.length - k) 0
      ⟨rfl, rfl, rfl, rfl, trivial⟩ ⟨Nat.zero_le _, L2, by simpa [rowsBt] using hW, hS⟩ ?_
    clear hS hW hS'
    rintro k w6 ⟨hk, L3, hW, hS⟩
    have hwl := rowsW_le hA.ns
    have htw := rowsW_take c.rows k
    have hbl := rowsBt_len (c.rows.take k) (fun r hr => hok.rows r (List.mem_of_mem_take hr)) (by omega)
    by_cases hkl : k < c.rows.length
    · obtain ⟨g, off, hga, hgT, hgc⟩ := rowCells hA.rows hkl
      have hrok := hok.rows c.rows[k] (List.getElem_mem hkl)
      have hns := hA.ns c.rows[k] (List.getElem_mem hkl)
      have hsucc := rowsBt_succ c.rows k hkl
      generalize c.rows[k] = row at hgc hrok hns hsucc
      have hri := ints_len [row.num, row.cab, row.zone] (all3 hrok.num hrok.cab hrok.zone).2
      have hrm := numB_len10 (marksN [row.exit]) (by have h3' : marksN [row.exit] < 2 := marksN_lt [row.exit]; omega)
      simp only [List.length_cons, List.length_nil] at hri
      repeat (first | refine SemW.run tblOk ?_ | refine jA (by omega) ?_ | refine jB (by omega) ?_ | refine jC (by omega) ?_ | refine jD (by omega) ?_ | refine jE rfl ?_ | refine jF (by omega) ?_ | (refine jG ?_; first | with_reducible (first | refine jH ?_ | refine jI ?_ | refine jJ ?_ | refine jK ?_ | refine jL ?_) | refine jM (by omega) ?_ | refine jN (by omega) ?_ | with_reducible refine jM rfl ?_ | refine jM (by assumption) ?_ | refine jN (by assumption) ?_ | refine jM (by decide) ?_ | refine jN (by decide) ?_) | refine jF (ptr_ok tblOk rfl rfl) ?_ | refine jO (fun _ => by kernel_rfl) ?_ | refine jF (by decide) ?_)
      refine hS.ldOld hA.out (hA.cell 13 _ rfl) ?_
      repeat (first | refine SemW.run tblOk ?_ | refine jA (by omega) ?_ | refine jB (by omega) ?_ | refine jC (by omega) ?_ | refine jD (by omega) ?_ | refine jE rfl ?_ | refine jF (by omega) ?_ | (refine jG ?_; first | with_reducible (first | refine jH ?_ | refine jI ?_ | refine jJ ?_ | refine jK ?_ | refine jL ?_) | refine jM (by omega) ?_ | refine jN (by omega) ?_ | with_reducible refine jM rfl ?_ | refine jM (by assumption) ?_ | refine jN (by assumption) ?_ | refine jM (by decide) ?_ | refine jN (by decide) ?_) | refine jF (ptr_ok tblOk rfl rfl) ?_ | refine jO (fun _ => by kernel_rfl) ?_ | refine jF (by decide) ?_)
      refine hS.ldOld hA.out (hA.cell 13 _ rfl) ?_
      rw [hga]
      repeat (first | refine SemW.run tblOk ?_ | refine jA (by omega) ?_ | refine jB (by omega) ?_ | refine jC (by omega) ?_ | refine jD (by omega) ?_ | refine jE rfl ?_ | refine jF (by omega) ?_ | (refine jG ?_; first | with_reducible (first | refine jH ?_ | refine jI ?_ | refine jJ ?_ | refine jK ?_ | refine jL ?_) | refine jM (by omega) ?_ | refine jN (by omega) ?_ | with_reducible refine jM rfl ?_ | refine jM (by assumption) ?_ | refine jN (by assumption) ?_ | refine jM (by decide) ?_ | refine jN (by decide) ?_) | refine jF (ptr_ok tblOk rfl rfl) ?_ | refine jO (fun _ => by kernel_rfl) ?_ | refine jF (by decide) ?_)
      refine SemW.draw tblOk mixed (fun w' => St w T0 L3 w') [14] [0, 1, 2, 3, 4, 5, 6, 7, 8, 9, 11, 12, 13, 10, 14] (by kernel_rfl) hS.drew ?_
      have hS := hS.drew
      repeat (first | refine SemW.run tblOk ?_ | refine jA (by omega) ?_ | refine jB (by omega) ?_ | refine jC (by omega) ?_ | refine jD (by omega) ?_ | refine jE rfl ?_ | refine jF (by omega) ?_ | (refine jG ?_; first | with_reducible (first | refine jH ?_ | refine jI ?_ | refine jJ ?_ | refine jK ?_ | refine jL ?_) | refine jM (by omega) ?_ | refine jN (by omega) ?_ | with_reducible refine jM rfl ?_ | refine jM (by assumption) ?_ | refine jN (by assumption) ?_ | refine jM (by decide) ?_ | refine jN (by decide) ?_) | refine jF (ptr_ok tblOk rfl rfl) ?_ | refine jO (fun _ => by kernel_rfl) ?_ | refine jF (by decide) ?_ | refine hS.ldC rfl ?_ | refine hS.ldnC rfl ?_)
      refine hS.al ?_
      intro r w3 _ hS
      refine Chk.mk (hS.sub (List.sublist_cons_self _ _)) ?_
      repeat (first | refine SemW.run tblOk ?_ | refine jA (by omega) ?_ | refine jB (by omega) ?_ | refine jC (by omega) ?_ | refine jD (by omega) ?_ | refine jE rfl ?_ | refine jF (by omega) ?_ | (refine jG ?_; first | with_reducible (first | refine jH ?_ | refine jI ?_ | refine jJ ?_ | refine jK ?_ | refine jL ?_) | refine jM (by omega) ?_ | refine jN (by omega) ?_ | with_reducible refine jM rfl ?_ | refine jM (by assumption) ?_ | refine jN (by assumption) ?_ | refine jM (by decide) ?_ | refine jN (by decide) ?_) | refine jF (ptr_ok tblOk rfl rfl) ?_ | refine jO (fun _ => by kernel_rfl) ?_ | refine jF (by decide) ?_ | refine hS.ldC rfl ?_ | refine hS.ldnC rfl ?_)
      have hcell : ∀ j v, (rowC row)[j]? = some v → g ∉ keys L3 ∧ w3.cell? ⟨g, off + k * 5 + j, none⟩ = some v := fun j v h => hS.cellNew (L := L3) hgT (hgc j v h)
      refine InvG.mk ⟨f_wire_writer_int, wrV pb, by kernel_rfl, ?_⟩
      refine Cl.mono (wint_spec hW (hS.part (L := L3)) (ps := [(g, off + k * 5 + 0), (g, off + k * 5 + 1), (g, off + k * 5 + 2)]) (zs := [row.num, row.cab, row.zone]) (hS.arr (b := r) (nodup_chunk hS)) rfl (ptrsAt_cons (hcell 0 _ rfl) (ptrsAt_cons (hcell 1 _ rfl) (ptrsAt_cons (hcell 2 _ rfl) ptrsAt_nil))) (all3 hrok.num hrok.cab hrok.zone).2 (by simp only [List.length_append, List.length_cons, List.length_nil]; omega)) ?_
      rintro _ w7 ⟨L4, hW, hS'⟩
      have hS := (hS.call (L := L3) hS').sub (List.sublist_cons_self _ _)
      repeat (first | refine SemW.run tblOk ?_ | refine jA (by omega) ?_ | refine jB (by omega) ?_ | refine jC (by omega) ?_ | refine jD (by omega) ?_ | refine jE rfl ?_ | refine jF (by omega) ?_ | (refine jG ?_; first | with_reducible (first | refine jH ?_ | refine jI ?_ | refine jJ ?_ | refine jK ?_ | refine jL ?_) | refine jM (by omega) ?_ | refine jN (by omega) ?_ | with_reducible refine jM rfl ?_ | refine jM (by assumption) ?_ | refine jN (by assumption) ?_ | refine jM (by decide) ?_ | refine jN (by decide) ?_) | refine jF (ptr_ok tblOk rfl rfl) ?_ | refine jO (fun _ => by kernel_rfl) ?_ | refine jF (by decide) ?_)
      refine SemW.draw tblOk mixed (fun w' => St w T0 L4 w') [8] [0, 1, 2, 3, 5, 6, 7, 4, 8] (by kernel_rfl) hS.drew ?_
      have hS := hS.drew
      repeat (first | refine SemW.run tblOk ?_ | refine jA (by omega) ?_ | refine jB (by omega) ?_ | refine jC (by omega) ?_ | refine jD (by omega) ?_ | refine jE rfl ?_ | refine jF (by omega) ?_ | (refine jG ?_; first | with_reducible (first | refine jH ?_ | refine jI ?_ | refine jJ ?_ | refine jK ?_ | refine jL ?_) | refine jM (by omega) ?_ | refine jN (by omega) ?_ | with_reducible refine jM rfl ?_ | refine jM (by assumption) ?_ | refine jN (by assumption) ?_ | refine jM (by decide) ?_ | refine jN (by decide) ?_) | refine jF (ptr_ok tblOk rfl rfl) ?_ | refine jO (fun _ => by kernel_rfl) ?_ | refine jF (by decide) ?_ | refine hS.ldC rfl ?_ | refine hS.ldnC rfl ?_)
      refine hS.al ?_
      intro r w3 _ hS
      refine Chk.mk (hS.sub (List.sublist_cons_self _ _)) ?_
      repeat (first | refine SemW.run tblOk ?_ | refine jA (by omega) ?_ | refine jB (by omega) ?_ | refine jC (by omega) ?_ | refine jD (by omega) ?_ | refine jE rfl ?_ | refine jF (by omega) ?_ | (refine jG ?_; first | with_reducible (first | refine jH ?_ | refine jI ?_ | refine jJ ?_ | refine jK ?_ | refine jL ?_) | refine jM (by omega) ?_ | refine jN (by omega) ?_ | with_reducible refine jM rfl ?_ | refine jM (by assumption) ?_ | refine jN (by assumption) ?_ | refine jM (by decide) ?_ | refine jN (by decide) ?_) | refine jF (ptr_ok tblOk rfl rfl) ?_ | refine jO (fun _ => by kernel_rfl) ?_ | refine jF (by decide) ?_ | refine hS.ldC rfl ?_ | refine hS.ldnC rfl ?_)
      have hcell : ∀ j v, (rowC row)[j]? = some v → g ∉ keys L4 ∧ w3.cell? ⟨g, off + k * 5 + j, none⟩ = some v := fun j v h => hS.cellNew (L := L4) hgT (hgc j v h)
      refine InvG.mk ⟨f_wire_writer_marks, wrV pb, by kernel_rfl, ?_⟩
      refine Cl.mono (wmarks_spec hW (hS.part (L := L4)) (ps := [(g, off + k * 5 + 3)]) (l := [row.exit]) (hS.arr (b := r) (nodup_chunk hS)) rfl (ptrsAt_cons (hcell 3 _ rfl) ptrsAt_nil) (by simp) (by simp only [List.length_append]; omega)) ?_
      rintro _ w7 ⟨L5, hW, hS'⟩
      have hS := (hS.call (L := L4) hS').sub (List.sublist_cons_self _ _)
      repeat (first | refine SemW.run tblOk ?_ | refine jA (by omega) ?_ | refine jB (by omega) ?_ | refine jC (by omega) ?_ | refine jD (by omega) ?_ | refine jE rfl ?_ | refine jF (by omega) ?_ | (refine jG ?_; first | with_reducible (first | refine jH ?_ | refine jI ?_ | refine jJ ?_ | refine jK ?_ | refine jL ?_) | refine jM (by omega) ?_ | refine jN (by omega) ?_ | with_reducible refine jM rfl ?_ | refine jM (by assumption) ?_ | refine jN (by assumption) ?_ | refine jM (by decide) ?_ | refine jN (by decide) ?_) | refine jF (ptr_ok tblOk rfl rfl) ?_ | refine jO (fun _ => by kernel_rfl) ?_ | refine jF (by decide) ?_)
      refine SemW.draw tblOk mixed (fun w' => St w T0 L5 w') [7] [0, 1, 2, 3, 4, 5, 6, 7] (by kernel_rfl) hS.drew ?_
      have hS := hS.drew
      repeat (first | refine SemW.run tblOk ?_ | refine jA (by omega) ?_ | refine jB (by omega) ?_ | refine jC (by omega) ?_ | refine jD (by omega) ?_ | refine jE rfl ?_ | refine jF (by omega) ?_ | (refine jG ?_; first | with_reducible (first | refine jH ?_ | refine jI ?_ | refine jJ ?_ | refine jK ?_ | refine jL ?_) | refine jM (by omega) ?_ | refine jN (by omega) ?_ | with_reducible refine jM rfl ?_ | refine jM (by assumption) ?_ | refine jN (by assumption) ?_ | refine jM (by decide) ?_ | refine jN (by decide) ?_) | refine jF (ptr_ok tblOk rfl rfl) ?_ | refine jO (fun _ => by kernel_rfl) ?_ | refine jF (by decide) ?_ | refine hS.ldC rfl ?_ | refine hS.ldnC rfl ?_)
      have hcell := hS.cellNew (L := L5) hgT (hgc 4 _ rfl)
      refine InvG.mk ⟨f_wire_writer_text, wrV pb, by kernel_rfl, ?_⟩
      refine Cl.mono (wtext_spec hW (hS.part (L := L5)) (p := (g, off + k * 5 + 4)) (x := row.seats) hcell (by simp only [List.length_append]; omega)) ?_
      rintro _ w7 ⟨L6, hW, hS'⟩
      have hS := hS.call (L := L5) hS'
      repeat (first | refine SemW.run tblOk ?_ | refine jA (by omega) ?_ | refine jB (by omega) ?_ | refine jC (by omega) ?_ | refine jD (by omega) ?_ | refine jE rfl ?_ | refine jF (by omega) ?_ | (refine jG ?_; first | with_reducible (first | refine jH ?_ | refine jI ?_ | refine jJ ?_ | refine jK ?_ | refine jL ?_) | refine jM (by omega) ?_ | refine jN (by omega) ?_ | with_reducible refine jM rfl ?_ | refine jM (by assumption) ?_ | refine jN (by assumption) ?_ | refine jM (by decide) ?_ | refine jN (by decide) ?_) | refine jF (ptr_ok tblOk rfl rfl) ?_ | refine jO (fun _ => by kernel_rfl) ?_ | refine jF (by decide) ?_)
      exact ⟨k + 1, ⟨rfl, rfl, rfl, rfl, trivial⟩, ⟨by omega, L6, by rw [hsucc]; simpa [rowB, textsB] using hW, hS⟩, by omega⟩
    · have hke : k = c.rows.length := by omega
      subst hke
      rw [List.take_length] at hW
      repeat (first | refine SemW.run tblOk ?_ | refine jA (by omega) ?_ | refine jB (by omega) ?_ | refine jC (by omega) ?_ | refine jD (by omega) ?_ | refine jE rfl ?_ | refine jF (by omega) ?_ | (refine jG ?_; first | with_reducible (first | refine jH ?_ | refine jI ?_ | refine jJ ?_ | refine jK ?_ | refine jL ?_) | refine jM (by omega) ?_ | refine jN (by omega) ?_ | with_reducible refine jM rfl ?_ | refine jM (by assumption) ?_ | refine jN (by assumption) ?_ | refine jM (by decide) ?_ | refine jN (by decide) ?_) | refine jF (ptr_ok tblOk rfl rfl) ?_ | refine jO (fun _ => by kernel_rfl) ?_ | refine jF (by decide) ?_)
      exact ⟨L3, by simpa using hW, hS⟩
  rw [if_neg h1]
  by_cases h2 : c.kind = 2
  · rw [if_pos h2]
    simp only [fieldsB]
    repeat (first | refine SemW.run tblOk ?_ | refine jA (by omega) ?_ | refine jB (by omega) ?_ | refine jC (by omega) ?_ | refine jD (by omega) ?_ | refine jE rfl ?_ | refine jF (by omega) ?_ | (refine jG ?_; first | with_reducible (first | refine jH ?_ | refine jI ?_ | refine jJ ?_ | refine jK ?_ | refine jL ?_) | refine jM (by omega) ?_ | refine jN (by omega) ?_ | with_reducible refine jM rfl ?_ | refine jM (by assumption) ?_ | refine jN (by assumption) ?_ | refine jM (by decide) ?_ | refine jN (by decide) ?_) | refine jF (ptr_ok tblOk rfl rfl) ?_ | refine jO (fun _ => by kernel_rfl) ?_ | refine jF (by decide) ?_)
    refine SemW.draw tblOk mixed (fun w' => St w T0 L w') [11] [0, 1, 2, 3, 4, 5, 6, 8, 9, 10, 7, 11] (by kernel_rfl) hS.drew ?_
    have hS := hS.drew
    repeat (first | refine SemW.run tblOk ?_ | refine jA (by omega) ?_ | refine jB (by omega) ?_ | refine jC (by omega) ?_ | refine jD (by omega) ?_ | refine jE rfl ?_ | refine jF (by omega) ?_ | (refine jG ?_; first | with_reducible (first | refine jH ?_ | refine jI ?_ | refine jJ ?_ | refine jK ?_ | refine jL ?_) | refine jM (by omega) ?_ | refine jN (by omega) ?_ | with_reducible refine jM rfl ?_ | refine jM (by assumption) ?_ | refine jN (by assumption) ?_ | refine jM (by decide) ?_ | refine jN (by decide) ?_) | refine jF (ptr_ok tblOk rfl rfl) ?_ | refine jO (fun _ => by kernel_rfl) ?_ | refine jF (by decide) ?_ | refine hS.ldC rfl ?_ | refine hS.ldnC rfl ?_)
    refine hS.al ?_
    intro r w3 _ hS
    refine Chk.mk (hS.sub (List.sublist_cons_self _ _)) ?_
    repeat (first | refine SemW.run tblOk ?_ | refine jA (by omega) ?_ | refine jB (by omega) ?_ | refine jC (by omega) ?_ | refine jD (by omega) ?_ | refine jE rfl ?_ | refine jF (by omega) ?_ | (refine jG ?_; first | with_reducible (first | refine jH ?_ | refine jI ?_ | refine jJ ?_ | refine jK ?_ | refine jL ?_) | refine jM (by omega) ?_ | refine jN (by omega) ?_ | with_reducible refine jM rfl ?_ | refine jM (by assumption) ?_ | refine jN (by assumption) ?_ | refine jM (by decide) ?_ | refine jN (by decide) ?_) | refine jF (ptr_ok tblOk rfl rfl) ?_ | refine jO (fun _ => by kernel_rfl) ?_ | refine jF (by decide) ?_ | refine hS.ldC rfl ?_ | refine hS.ldnC rfl ?_)
    have hcell : ∀ j v, (cmdC c a cap)[j]? = some v → cb ∉ keys L ∧ w3.cell? ⟨cb, j, none⟩ = some v := fun j v h => hS.cellNew (L := L) hA.out (hA.cell j v h)
    refine InvG.mk ⟨f_wire_writer_int, wrV pb, by kernel_rfl, ?_⟩
    refine Cl.mono (wint_spec hW (hS.part (L := L)) (ps := [(cb, 2), (cb, 4)]) (zs := [c.id, c.eq]) (hS.arr (b := r) (nodup_chunk hS)) rfl (ptrsAt_cons (hcell 2 _ rfl) (ptrsAt_cons (hcell 4 _ rfl) ptrsAt_nil)) (all2 hok.id hok.eq).2 (by simp only [List.length_append, List.length_cons, List.length_nil]; omega)) ?_
    rintro _ w4 ⟨L1, hW, hS'⟩
    have hS := (hS.call (L := L) hS').sub (List.sublist_cons_self _ _)
    repeat (first | refine SemW.run tblOk ?_ | refine jA (by omega) ?_ | refine jB (by omega) ?_ | refine jC (by omega) ?_ | refine jD (by omega) ?_ | refine jE rfl ?_ | refine jF (by omega) ?_ | (refine jG ?_; first | with_reducible (first | refine jH ?_ | refine jI ?_ | refine jJ ?_ | refine jK ?_ | refine jL ?_) | refine jM (by omega) ?_ | refine jN (by omega) ?_ | with_reducible refine jM rfl ?_ | refine jM (by assumption) ?_ | refine jN (by assumption) ?_ | refine jM (by decide) ?_ | refine jN (by decide) ?_) | refine jF (ptr_ok tblOk rfl rfl) ?_ | refine jO (fun _ => by kernel_rfl) ?_ | refine jF (by decide) ?_)
    refine SemW.loop (fun k : Nat => [(0, .iface T_wire_writer (wrV pb)), (1, ptr cb), (116, .int .i64 k)])
      (fun k w' => k ≤ 4 ∧ ∃ L', PackW pb (bs ++ intsB [c.id, c.eq] ++ intsB ([c.l0, c.l1, c.l2, c.l3].take k)) L' ∧ St w T0 L' w') (fun k => 4 - k) 0
      ⟨rfl, rfl, rfl, trivial⟩ ⟨Nat.zero_le _, L1, by simpa [intsB] using hW, hS⟩ ?_
    clear hS hW hS'
    rintro k w6 ⟨hk, L3, hW, hS⟩
    have hall := all4 hok.l0 hok.l1 hok.l2 hok.l3
    have hil := ints_len ([c.l0, c.l1, c.l2, c.l3].take k) (fun z hz => hall.2 z (List.mem_of_mem_take hz))
    rw [List.length_take] at hil
    by_cases hk4 : k < 4
    · have hsucc := ints_succ [c.l0, c.l1, c.l2, c.l3] k hk4
      have hz := hall.2 [c.l0, c.l1, c.l2, c.l3][k] (List.getElem_mem hk4)
      have hx : (cmdC c a cap)[14 + k]? = some (intV [c.l0, c.l1, c.l2, c.l3][k]) := by
        match k, hk4 with
        | 0, _ => rfl
        | 1, _ => rfl
        | 2, _ => rfl
        | 3, _ => rfl
      generalize [c.l0, c.l1, c.l2, c.l3][k] = z at hsucc hz hx
      repeat (first | refine SemW.run tblOk ?_ | refine jA (by omega) ?_ | refine jB (by omega) ?_ | refine jC (by omega) ?_ | refine jD (by omega) ?_ | refine jE rfl ?_ | refine jF (by omega) ?_ | (refine jG ?_; first | with_reducible (first | refine jH ?_ | refine jI ?_ | refine jJ ?_ | refine jK ?_ | refine jL ?_) | refine jM (by omega) ?_ | refine jN (by omega) ?_ | with_reducible refine jM rfl ?_ | refine jM (by assumption) ?_ | refine jN (by assumption) ?_ | refine jM (by decide) ?_ | refine jN (by decide) ?_) | refine jF (ptr_ok tblOk rfl rfl) ?_ | refine jO (fun _ => by kernel_rfl) ?_ | refine jF (by decide) ?_)
      refine SemW.draw tblOk mixed (fun w' => St w T0 L3 w') [10] [0, 1, 2, 3, 4, 5, 7, 8, 9, 6, 10] (by kernel_rfl) hS.drew ?_
      have hS := hS.drew
      repeat (first | refine SemW.run tblOk ?_ | refine jA (by omega) ?_ | refine jB (by omega) ?_ | refine jC (by omega) ?_ | refine jD (by omega) ?_ | refine jE rfl ?_ | refine jF (by omega) ?_ | (refine jG ?_; first | with_reducible (first | refine jH ?_ | refine jI ?_ | refine jJ ?_ | refine jK ?_ | refine jL ?_) | refine jM (by omega) ?_ | refine jN (by omega) ?_ | with_reducible refine jM rfl ?_ | refine jM (by assumption) ?_ | refine jN (by assumption) ?_ | refine jM (by decide) ?_ | refine jN (by decide) ?_) | refine jF (ptr_ok tblOk rfl rfl) ?_ | refine jO (fun _ => by kernel_rfl) ?_ | refine jF (by decide) ?_ | refine hS.ldC rfl ?_ | refine hS.ldnC rfl ?_)
      refine hS.al ?_
      intro r w3 _ hS
      refine Chk.mk (hS.sub (List.sublist_cons_self _ _)) ?_
      repeat (first | refine SemW.run tblOk ?_ | refine jA (by omega) ?_ | refine jB (by omega) ?_ | refine jC (by omega) ?_ | refine jD (by omega) ?_ | refine jE rfl ?_ | refine jF (by omega) ?_ | (refine jG ?_; first | with_reducible (first | refine jH ?_ | refine jI ?_ | refine jJ ?_ | refine jK ?_ | refine jL ?_) | refine jM (by omega) ?_ | refine jN (by omega) ?_ | with_reducible refine jM rfl ?_ | refine jM (by assumption) ?_ | refine jN (by assumption) ?_ | refine jM (by decide) ?_ | refine jN (by decide) ?_) | refine jF (ptr_ok tblOk rfl rfl) ?_ | refine jO (fun _ => by kernel_rfl) ?_ | refine jF (by decide) ?_ | refine hS.ldC rfl ?_ | refine hS.ldnC rfl ?_)
      have hcell : ∀ j v, (cmdC c a cap)[j]? = some v → cb ∉ keys L3 ∧ w3.cell? ⟨cb, j, none⟩ = some v := fun j v h => hS.cellNew (L := L3) hA.out (hA.cell j v h)
      refine InvG.mk ⟨f_wire_writer_int, wrV pb, by kernel_rfl, ?_⟩
      refine Cl.mono (wint_spec hW (hS.part (L := L3)) (ps := [(cb, 14 + k * 1)]) (zs := [z]) (hS.arr (b := r) (nodup_chunk hS)) rfl (ptrsAt_cons (hcell (14 + k * 1) _ (by rw [Nat.mul_one]; exact hx)) ptrsAt_nil) (all1 hz).2 (by simp only [List.length_append, List.length_cons, List.length_nil]; omega)) ?_
      rintro _ w4 ⟨L4, hW, hS'⟩
      have hS := (hS.call (L := L3) hS').sub (List.sublist_cons_self _ _)
      repeat (first | refine SemW.run tblOk ?_ | refine jA (by omega) ?_ | refine jB (by omega) ?_ | refine jC (by omega) ?_ | refine jD (by omega) ?_ | refine jE rfl ?_ | refine jF (by omega) ?_ | (refine jG ?_; first | with_reducible (first | refine jH ?_ | refine jI ?_ | refine jJ ?_ | refine jK ?_ | refine jL ?_) | refine jM (by omega) ?_ | refine jN (by omega) ?_ | with_reducible refine jM rfl ?_ | refine jM (by assumption) ?_ | refine jN (by assumption) ?_ | refine jM (by decide) ?_ | refine jN (by decide) ?_) | refine jF (ptr_ok tblOk rfl rfl) ?_ | refine jO (fun _ => by kernel_rfl) ?_ | refine jF (by decide) ?_)
      exact ⟨k + 1, ⟨rfl, rfl, rfl, trivial⟩, ⟨by omega, L4, by rw [hsucc]; simpa [intsB] using hW, hS⟩, by omega⟩
    · have hke : k = 4 := by omega
      subst hke
      repeat (first | refine SemW.run tblOk ?_ | refine jA (by omega) ?_ | refine jB (by omega) ?_ | refine jC (by omega) ?_ | refine jD (by omega) ?_ | refine jE rfl ?_ | refine jF (by omega) ?_ | (refine jG ?_; first | with_reducible (first | refine jH ?_ | refine jI ?_ | refine jJ ?_ | refine jK ?_ | refine jL ?_) | refine jM (by omega) ?_ | refine jN (by omega) ?_ | with_reducible refine jM rfl ?_ | refine jM (by assumption) ?_ | refine jN (by assumption) ?_ | refine jM (by decide) ?_ | refine jN (by decide) ?_) | refine jF (ptr_ok tblOk rfl rfl) ?_ | refine jO (fun _ => by kernel_rfl) ?_ | refine jF (by decide) ?_)
      exact ⟨L3, by simpa using hW, hS⟩
  rw [if_neg h2]
  by_cases h3 : c.kind = 3
  · rw [if_pos h3]
    simp only [fieldsB]
    repeat (first | refine SemW.run tblOk ?_ | refine jA (by omega) ?_ | refine jB (by omega) ?_ | refine jC (by omega) ?_ | refine jD (by omega) ?_ | refine jE rfl ?_ | refine jF (by omega) ?_ | (refine jG ?_; first | with_reducible (first | refine jH ?_ | refine jI ?_ | refine jJ ?_ | refine jK ?_ | refine jL ?_) | refine jM (by omega) ?_ | refine jN (by omega) ?_ | with_reducible refine jM rfl ?_ | refine jM (by assumption) ?_ | refine jN (by assumption) ?_ | refine jM (by decide) ?_ | refine jN (by decide) ?_) | refine jF (ptr_ok tblOk rfl rfl) ?_ | refine jO (fun _ => by kernel_rfl) ?_ | refine jF (by decide) ?_)
    refine SemW.draw tblOk mixed (fun w' => St w T0 L w') [18] [0, 1, 2, 3, 4, 5, 6, 7, 8, 9, 10, 11, 12, 13, 15, 16, 17, 14, 18] (by kernel_rfl) hS.drew ?_
    have hS := hS.drew
    repeat (first | refine SemW.run tblOk ?_ | refine jA (by omega) ?_ | refine jB (by omega) ?_ | refine jC (by omega) ?_ | refine jD (by omega) ?_ | refine jE rfl ?_ | refine jF (by omega) ?_ | (refine jG ?_; first | with_reducible (first | refine jH ?_ | refine jI ?_ | refine jJ ?_ | refine jK ?_ | refine jL ?_) | refine jM (by omega) ?_ | refine jN (by omega) ?_ | with_reducible refine jM rfl ?_ | refine jM (by assumption) ?_ | refine jN (by assumption) ?_ | refine jM (by decide) ?_ | refine jN (by decide) ?_) | refine jF (ptr_ok tblOk rfl rfl) ?_ | refine jO (fun _ => by kernel_rfl) ?_ | refine jF (by decide) ?_ | refine hS.ldC rfl ?_ | refine hS.ldnC rfl ?_)
    refine hS.al ?_
    intro r w3 _ hS
    refine Chk.mk (hS.sub (List.sublist_cons_self _ _)) ?_
    repeat (first | refine SemW.run tblOk ?_ | refine jA (by omega) ?_ | refine jB (by omega) ?_ | refine jC (by omega) ?_ | refine jD (by omega) ?_ | refine jE rfl ?_ | refine jF (by omega) ?_ | (refine jG ?_; first | with_reducible (first | refine jH ?_ | refine jI ?_ | refine jJ ?_ | refine jK ?_ | refine jL ?_) | refine jM (by omega) ?_ | refine jN (by omega) ?_ | with_reducible refine jM rfl ?_ | refine jM (by assumption) ?_ | refine jN (by assumption) ?_ | refine jM (by decide) ?_ | refine jN (by decide) ?_) | refine jF (ptr_ok tblOk rfl rfl) ?_ | refine jO (fun _ => by kernel_rfl) ?_ | refine jF (by decide) ?_ | refine hS.ldC rfl ?_ | refine hS.ldnC rfl ?_)
    have hcell : ∀ j v, (cmdC c a cap)[j]? = some v → cb ∉ keys L ∧ w3.cell? ⟨cb, j, none⟩ = some v := fun j v h => hS.cellNew (L := L) hA.out (hA.cell j v h)
    refine InvG.mk ⟨f_wire_writer_int, wrV pb, by kernel_rfl, ?_⟩
    refine Cl.mono (wint_spec hW (hS.part (L := L)) (ps := [(cb, 2), (cb, 3), (cb, 6), (cb, 5)]) (zs := [c.id, c.fl, c.wcab, c.cls]) (hS.arr (b := r) (nodup_chunk hS)) rfl (ptrsAt_cons (hcell 2 _ rfl) (ptrsAt_cons (hcell 3 _ rfl) (ptrsAt_cons (hcell 6 _ rfl) (ptrsAt_cons (hcell 5 _ rfl) ptrsAt_nil)))) (all4 hok.id hok.fl hok.wcab hok.cls).2 (by simp only [List.length_append, List.length_cons, List.length_nil]; omega)) ?_
    rintro _ w4 ⟨L1, hW, hS'⟩
    have hS := (hS.call (L := L) hS').sub (List.sublist_cons_self _ _)
    repeat (first | refine SemW.run tblOk ?_ | refine jA (by omega) ?_ | refine jB (by omega) ?_ | refine jC (by omega) ?_ | refine jD (by omega) ?_ | refine jE rfl ?_ | refine jF (by omega) ?_ | (refine jG ?_; first | with_reducible (first | refine jH ?_ | refine jI ?_ | refine jJ ?_ | refine jK ?_ | refine jL ?_) | refine jM (by omega) ?_ | refine jN (by omega) ?_ | with_reducible refine jM rfl ?_ | refine jM (by assumption) ?_ | refine jN (by assumption) ?_ | refine jM (by decide) ?_ | refine jN (by decide) ?_) | refine jF (ptr_ok tblOk rfl rfl) ?_ | refine jO (fun _ => by kernel_rfl) ?_ | refine jF (by decide) ?_)
    refine SemW.draw tblOk mixed (fun w' => St w T0 L1 w') [19] [0, 1, 2, 3, 4, 5, 6, 7, 8, 9, 10, 11, 12, 13, 14, 16, 17, 18, 15, 19] (by kernel_rfl) hS.drew ?_
    have hS := hS.drew
    repeat (first | refine SemW.run tblOk ?_ | refine jA (by omega) ?_ | refine jB (by omega) ?_ | refine jC (by omega) ?_ | refine jD (by omega) ?_ | refine jE rfl ?_ | refine jF (by omega) ?_ | (refine jG ?_; first | with_reducible (first | refine jH ?_ | refine jI ?_ | refine jJ ?_ | refine jK ?_ | refine jL ?_) | refine jM (by omega) ?_ | refine jN (by omega) ?_ | with_reducible refine jM rfl ?_ | refine jM (by assumption) ?_ | refine jN (by assumption) ?_ | refine jM (by decide) ?_ | refine jN (by decide) ?_) | refine jF (ptr_ok tblOk rfl rfl) ?_ | refine jO (fun _ => by kernel_rfl) ?_ | refine jF (by decide) ?_ | refine hS.ldC rfl ?_ | refine hS.ldnC rfl ?_)
    refine hS.al ?_
    intro r w3 _ hS
    refine Chk.mk (hS.sub (List.sublist_cons_self _ _)) ?_
    repeat (first | refine SemW.run tblOk ?_ | refine jA (by omega) ?_ | refine jB (by omega) ?_ | refine jC (by omega) ?_ | refine jD (by omega) ?_ | refine jE rfl ?_ | refine jF (by omega) ?_ | (refine jG ?_; first | with_reducible (first | refine jH ?_ | refine jI ?_ | refine jJ ?_ | refine jK ?_ | refine jL ?_) | refine jM (by omega) ?_ | refine jN (by omega) ?_ | with_reducible refine jM rfl ?_ | refine jM (by assumption) ?_ | refine jN (by assumption) ?_ | refine jM (by decide) ?_ | refine jN (by decide) ?_) | refine jF (ptr_ok tblOk rfl rfl) ?_ | refine jO (fun _ => by kernel_rfl) ?_ | refine jF (by decide) ?_ | refine hS.ldC rfl ?_ | refine hS.ldnC rfl ?_)
    have hcell : ∀ j v, (cmdC c a cap)[j]? = some v → cb ∉ keys L1 ∧ w3.cell? ⟨cb, j, none⟩ = some v := fun j v h => hS.cellNew (L := L1) hA.out (hA.cell j v h)
    refine InvG.mk ⟨f_wire_writer_marks, wrV pb, by kernel_rfl, ?_⟩
    refine Cl.mono (wmarks_spec hW (hS.part (L := L1)) (ps := [(cb, 7), (cb, 8), (cb, 9), (cb, 10)]) (l := [c.fit, c.inf, c.vol, c.stb]) (hS.arr (b := r) (nodup_chunk hS)) rfl (ptrsAt_cons (hcell 7 _ rfl) (ptrsAt_cons (hcell 8 _ rfl) (ptrsAt_cons (hcell 9 _ rfl) (ptrsAt_cons (hcell 10 _ rfl) ptrsAt_nil)))) (by simp) (by simp only [List.length_append]; omega)) ?_
    rintro _ w7 ⟨L5, hW, hS'⟩
    have hS := (hS.call (L := L1) hS').sub (List.sublist_cons_self _ _)
    repeat (first | refine SemW.run tblOk ?_ | refine jA (by omega) ?_ | refine jB (by omega) ?_ | refine jC (by omega) ?_ | refine jD (by omega) ?_ | refine jE rfl ?_ | refine jF (by omega) ?_ | (refine jG ?_; first | with_reducible (first | refine jH ?_ | refine jI ?_ | refine jJ ?_ | refine jK ?_ | refine jL ?_) | refine jM (by omega) ?_ | refine jN (by omega) ?_ | with_reducible refine jM rfl ?_ | refine jM (by assumption) ?_ | refine jN (by assumption) ?_ | refine jM (by decide) ?_ | refine jN (by decide) ?_) | refine jF (ptr_ok tblOk rfl rfl) ?_ | refine jO (fun _ => by kernel_rfl) ?_ | refine jF (by decide) ?_)
    exact ⟨L5, by simpa using hW, hS⟩
  rw [if_neg h3]
  by_cases h6 : c.kind = 6
  · rw [if_pos h6]
    simp only [fieldsB]
    repeat (first | refine SemW.run tblOk ?_ | refine jA (by omega) ?_ | refine jB (by omega) ?_ | refine jC (by omega) ?_ | refine jD (by omega) ?_ | refine jE rfl ?_ | refine jF (by omega) ?_ | (refine jG ?_; first | with_reducible (first | refine jH ?_ | refine jI ?_ | refine jJ ?_ | refine jK ?_ | refine jL ?_) | refine jM (by omega) ?_ | refine jN (by omega) ?_ | with_reducible refine jM rfl ?_ | refine jM (by assumption) ?_ | refine jN (by assumption) ?_ | refine jM (by decide) ?_ | refine jN (by decide) ?_) | refine jF (ptr_ok tblOk rfl rfl) ?_ | refine jO (fun _ => by kernel_rfl) ?_ | refine jF (by decide) ?_)
    refine SemW.draw tblOk mixed (fun w' => St w T0 L w') [12] [0, 1, 2, 3, 4, 5, 6, 7, 9, 10, 11, 8, 12] (by kernel_rfl) hS.drew ?_
    have hS := hS.drew
    repeat (first | refine SemW.run tblOk ?_ | refine jA (by omega) ?_ | refine jB (by omega) ?_ | refine jC (by omega) ?_ | refine jD (by omega) ?_ | refine jE rfl ?_ | refine jF (by omega) ?_ | (refine jG ?_; first | with_reducible (first | refine jH ?_ | refine jI ?_ | refine jJ ?_ | refine jK ?_ | refine jL ?_) | refine jM (by omega) ?_ | refine jN (by omega) ?_ | with_reducible refine jM rfl ?_ | refine jM (by assumption) ?_ | refine jN (by assumption) ?_ | refine jM (by decide) ?_ | refine jN (by decide) ?_) | refine jF (ptr_ok tblOk rfl rfl) ?_ | refine jO (fun _ => by kernel_rfl) ?_ | refine jF (by decide) ?_ | refine hS.ldC rfl ?_ | refine hS.ldnC rfl ?_)
    refine hS.al ?_
    intro r w3 _ hS
    refine Chk.mk (hS.sub (List.sublist_cons_self _ _)) ?_
    repeat (first | refine SemW.run tblOk ?_ | refine jA (by omega) ?_ | refine jB (by omega) ?_ | refine jC (by omega) ?_ | refine jD (by omega) ?_ | refine jE rfl ?_ | refine jF (by omega) ?_ | (refine jG ?_; first | with_reducible (first | refine jH ?_ | refine jI ?_ | refine jJ ?_ | refine jK ?_ | refine jL ?_) | refine jM (by omega) ?_ | refine jN (by omega) ?_ | with_reducible refine jM rfl ?_ | refine jM (by assumption) ?_ | refine jN (by assumption) ?_ | refine jM (by decide) ?_ | refine jN (by decide) ?_) | refine jF (ptr_ok tblOk rfl rfl) ?_ | refine jO (fun _ => by kernel_rfl) ?_ | refine jF (by decide) ?_ | refine hS.ldC rfl ?_ | refine hS.ldnC rfl ?_)
    have hcell : ∀ j v, (cmdC c a cap)[j]? = some v → cb ∉ keys L ∧ w3.cell? ⟨cb, j, none⟩ = some v := fun j v h => hS.cellNew (L := L) hA.out (hA.cell j v h)
    refine InvG.mk ⟨f_wire_writer_int, wrV pb, by kernel_rfl, ?_⟩
    refine Cl.mono (wint_spec hW (hS.part (L := L)) (ps := [(cb, 2), (cb, 11)]) (zs := [c.id, c.num]) (hS.arr (b := r) (nodup_chunk hS)) rfl (ptrsAt_cons (hcell 2 _ rfl) (ptrsAt_cons (hcell 11 _ rfl) ptrsAt_nil)) (all2 hok.id hok.num).2 (by simp only [List.length_append, List.length_cons, List.length_nil]; omega)) ?_
    rintro _ w4 ⟨L1, hW, hS'⟩
    have hS := (hS.call (L := L) hS').sub (List.sublist_cons_self _ _)
    repeat (first | refine SemW.run tblOk ?_ | refine jA (by omega) ?_ | refine jB (by omega) ?_ | refine jC (by omega) ?_ | refine jD (by omega) ?_ | refine jE rfl ?_ | refine jF (by omega) ?_ | (refine jG ?_; first | with_reducible (first | refine jH ?_ | refine jI ?_ | refine jJ ?_ | refine jK ?_ | refine jL ?_) | refine jM (by omega) ?_ | refine jN (by omega) ?_ | with_reducible refine jM rfl ?_ | refine jM (by assumption) ?_ | refine jN (by assumption) ?_ | refine jM (by decide) ?_ | refine jN (by decide) ?_) | refine jF (ptr_ok tblOk rfl rfl) ?_ | refine jO (fun _ => by kernel_rfl) ?_ | refine jF (by decide) ?_)
    refine SemW.draw tblOk mixed (fun w' => St w T0 L1 w') [8] [0, 1, 2, 3, 4, 5, 6, 7, 8] (by kernel_rfl) hS.drew ?_
    have hS := hS.drew
    repeat (first | refine SemW.run tblOk ?_ | refine jA (by omega) ?_ | refine jB (by omega) ?_ | refine jC (by omega) ?_ | refine jD (by omega) ?_ | refine jE rfl ?_ | refine jF (by omega) ?_ | (refine jG ?_; first | with_reducible (first | refine jH ?_ | refine jI ?_ | refine jJ ?_ | refine jK ?_ | refine jL ?_) | refine jM (by omega) ?_ | refine jN (by omega) ?_ | with_reducible refine jM rfl ?_ | refine jM (by assumption) ?_ | refine jN (by assumption) ?_ | refine jM (by decide) ?_ | refine jN (by decide) ?_) | refine jF (ptr_ok tblOk rfl rfl) ?_ | refine jO (fun _ => by kernel_rfl) ?_ | refine jF (by decide) ?_ | refine hS.ldC rfl ?_ | refine hS.ldnC rfl ?_)
    have hcell := hS.cellNew (L := L1) hA.out (hA.cell 12 _ rfl)
    refine InvG.mk ⟨f_wire_writer_letter, wrV pb, by kernel_rfl, ?_⟩
    refine Cl.mono (wletter_spec hW (hS.part (L := L1)) (p := (cb, 12)) (c := c.lt) hok.lt hcell (by simp only [List.length_append]; omega)) ?_
    rintro _ w7 ⟨L5, hW, hS'⟩
    have hS := hS.call (L := L1) hS'
    repeat (first | refine SemW.run tblOk ?_ | refine jA (by omega) ?_ | refine jB (by omega) ?_ | refine jC (by omega) ?_ | refine jD (by omega) ?_ | refine jE rfl ?_ | refine jF (by omega) ?_ | (refine jG ?_; first | with_reducible (first | refine jH ?_ | refine jI ?_ | refine jJ ?_ | refine jK ?_ | refine jL ?_) | refine jM (by omega) ?_ | refine jN (by omega) ?_ | with_reducible refine jM rfl ?_ | refine jM (by assumption) ?_ | refine jN (by assumption) ?_ | refine jM (by decide) ?_ | refine jN (by decide) ?_) | refine jF (ptr_ok tblOk rfl rfl) ?_ | refine jO (fun _ => by kernel_rfl) ?_ | refine jF (by decide) ?_)
    exact ⟨L5, by simpa using hW, hS⟩
  rw [if_neg h6]
  by_cases h8 : c.kind = 8
  · rw [if_pos h8]
    simp only [fieldsB]
    repeat (first | refine SemW.run tblOk ?_ | refine jA (by omega) ?_ | refine jB (by omega) ?_ | refine jC (by omega) ?_ | refine jD (by omega) ?_ | refine jE rfl ?_ | refine jF (by omega) ?_ | (refine jG ?_; first | with_reducible (first | refine jH ?_ | refine jI ?_ | refine jJ ?_ | refine jK ?_ | refine jL ?_) | refine jM (by omega) ?_ | refine jN (by omega) ?_ | with_reducible refine jM rfl ?_ | refine jM (by assumption) ?_ | refine jN (by assumption) ?_ | refine jM (by decide) ?_ | refine jN (by decide) ?_) | refine jF (ptr_ok tblOk rfl rfl) ?_ | refine jO (fun _ => by kernel_rfl) ?_ | refine jF (by decide) ?_)
    refine SemW.draw tblOk mixed (fun w' => St w T0 L w') [11] [0, 1, 2, 3, 4, 5, 6, 8, 9, 10, 7, 11] (by kernel_rfl) hS.drew ?_
    have hS := hS.drew
    repeat (first | refine SemW.run tblOk ?_ | refine jA (by omega) ?_ | refine jB (by omega) ?_ | refine jC (by omega) ?_ | refine jD (by omega) ?_ | refine jE rfl ?_ | refine jF (by omega) ?_ | (refine jG ?_; first | with_reducible (first | refine jH ?_ | refine jI ?_ | refine jJ ?_ | refine jK ?_ | refine jL ?_) | refine jM (by omega) ?_ | refine jN (by omega) ?_ | with_reducible refine jM rfl ?_ | refine jM (by assumption) ?_ | refine jN (by assumption) ?_ | refine jM (by decide) ?_ | refine jN (by decide) ?_) | refine jF (ptr_ok tblOk rfl rfl) ?_ | refine jO (fun _ => by kernel_rfl) ?_ | refine jF (by decide) ?_ | refine hS.ldC rfl ?_ | refine hS.ldnC rfl ?_)
    refine hS.al ?_
    intro r w3 _ hS
    refine Chk.mk (hS.sub (List.sublist_cons_self _ _)) ?_
    repeat (first | refine SemW.run tblOk ?_ | refine jA (by omega) ?_ | refine jB (by omega) ?_ | refine jC (by omega) ?_ | refine jD (by omega) ?_ | refine jE rfl ?_ | refine jF (by omega) ?_ | (refine jG ?_; first | with_reducible (first | refine jH ?_ | refine jI ?_ | refine jJ ?_ | refine jK ?_ | refine jL ?_) | refine jM (by omega) ?_ | refine jN (by omega) ?_ | with_reducible refine jM rfl ?_ | refine jM (by assumption) ?_ | refine jN (by assumption) ?_ | refine jM (by decide) ?_ | refine jN (by decide) ?_) | refine jF (ptr_ok tblOk rfl rfl) ?_ | refine jO (fun _ => by kernel_rfl) ?_ | refine jF (by decide) ?_ | refine hS.ldC rfl ?_ | refine hS.ldnC rfl ?_)
    have hcell : ∀ j v, (cmdC c a cap)[j]? = some v → cb ∉ keys L ∧ w3.cell? ⟨cb, j, none⟩ = some v := fun j v h => hS.cellNew (L := L) hA.out (hA.cell j v h)
    refine InvG.mk ⟨f_wire_writer_int, wrV pb, by kernel_rfl, ?_⟩
    refine Cl.mono (wint_spec hW (hS.part (L := L)) (ps := [(cb, 3), (cb, 4)]) (zs := [c.fl, c.eq]) (hS.arr (b := r) (nodup_chunk hS)) rfl (ptrsAt_cons (hcell 3 _ rfl) (ptrsAt_cons (hcell 4 _ rfl) ptrsAt_nil)) (all2 hok.fl hok.eq).2 (by simp only [List.length_append, List.length_cons, List.length_nil]; omega)) ?_
    rintro _ w4 ⟨L1, hW, hS'⟩
    have hS := (hS.call (L := L) hS').sub (List.sublist_cons_self _ _)
    repeat (first | refine SemW.run tblOk ?_ | refine jA (by omega) ?_ | refine jB (by omega) ?_ | refine jC (by omega) ?_ | refine jD (by omega) ?_ | refine jE rfl ?_ | refine jF (by omega) ?_ | (refine jG ?_; first | with_reducible (first | refine jH ?_ | refine jI ?_ | refine jJ ?_ | refine jK ?_ | refine jL ?_) | refine jM (by omega) ?_ | refine jN (by omega) ?_ | with_reducible refine jM rfl ?_ | refine jM (by assumption) ?_ | refine jN (by assumption) ?_ | refine jM (by decide) ?_ | refine jN (by decide) ?_) | refine jF (ptr_ok tblOk rfl rfl) ?_ | refine jO (fun _ => by kernel_rfl) ?_ | refine jF (by decide) ?_)
    exact ⟨L1, hW, hS⟩
  rw [if_neg h8]
  by_cases hf : c.kind = 9 ∨ c.kind = 10 ∨ c.kind = 13 ∨ c.kind = 14
  · rw [if_pos hf]
    simp only [fieldsB]
    rcases hf with hf | hf | hf | hf
    · repeat (first | refine SemW.run tblOk ?_ | refine jA (by omega) ?_ | refine jB (by omega) ?_ | refine jC (by omega) ?_ | refine jD (by omega) ?_ | refine jE rfl ?_ | refine jF (by omega) ?_ | (refine jG ?_; first | with_reducible (first | refine jH ?_ | refine jI ?_ | refine jJ ?_ | refine jK ?_ | refine jL ?_) | refine jM (by omega) ?_ | refine jN (by omega) ?_ | with_reducible refine jM rfl ?_ | refine jM (by assumption) ?_ | refine jN (by assumption) ?_ | refine jM (by decide) ?_ | refine jN (by decide) ?_) | refine jF (ptr_ok tblOk rfl rfl) ?_ | refine jO (fun _ => by kernel_rfl) ?_ | refine jF (by decide) ?_)
      refine SemW.draw tblOk mixed (fun w' => St w T0 L w') [8] [0, 1, 2, 3, 5, 6, 7, 4, 8] (by kernel_rfl) hS.drew ?_
      have hS := hS.drew
      repeat (first | refine SemW.run tblOk ?_ | refine jA (by omega) ?_ | refine jB (by omega) ?_ | refine jC (by omega) ?_ | refine jD (by omega) ?_ | refine jE rfl ?_ | refine jF (by omega) ?_ | (refine jG ?_; first | with_reducible (first | refine jH ?_ | refine jI ?_ | refine jJ ?_ | refine jK ?_ | refine jL ?_) | refine jM (by omega) ?_ | refine jN (by omega) ?_ | with_reducible refine jM rfl ?_ | refine jM (by assumption) ?_ | refine jN (by assumption) ?_ | refine jM (by decide) ?_ | refine jN (by decide) ?_) | refine jF (ptr_ok tblOk rfl rfl) ?_ | refine jO (fun _ => by kernel_rfl) ?_ | refine jF (by decide) ?_ | refine hS.ldC rfl ?_ | refine hS.ldnC rfl ?_)
      refine hS.al ?_
      intro r w3 _ hS
      refine Chk.mk (hS.sub (List.sublist_cons_self _ _)) ?_
      repeat (first | refine SemW.run tblOk ?_ | refine jA (by omega) ?_ | refine jB (by omega) ?_ | refine jC (by omega) ?_ | refine jD (by omega) ?_ | refine jE rfl ?_ | refine jF (by omega) ?_ | (refine jG ?_; first | with_reducible (first | refine jH ?_ | refine jI ?_ | refine jJ ?_ | refine jK ?_ | refine jL ?_) | refine jM (by omega) ?_ | refine jN (by omega) ?_ | with_reducible refine jM rfl ?_ | refine jM (by assumption) ?_ | refine jN (by assumption) ?_ | refine jM (by decide) ?_ | refine jN (by decide) ?_) | refine jF (ptr_ok tblOk rfl rfl) ?_ | refine jO (fun _ => by kernel_rfl) ?_ | refine jF (by decide) ?_ | refine hS.ldC rfl ?_ | refine hS.ldnC rfl ?_)
      have hcell : ∀ j v, (cmdC c a cap)[j]? = some v → cb ∉ keys L ∧ w3.cell? ⟨cb, j, none⟩ = some v := fun j v h => hS.cellNew (L := L) hA.out (hA.cell j v h)
      refine InvG.mk ⟨f_wire_writer_int, wrV pb, by kernel_rfl, ?_⟩
      refine Cl.mono (wint_spec hW (hS.part (L := L)) (ps := [(cb, 3)]) (zs := [c.fl]) (hS.arr (b := r) (nodup_chunk hS)) rfl (ptrsAt_cons (hcell 3 _ rfl) ptrsAt_nil) (all1 hok.fl).2 (by simp only [List.length_append, List.length_cons, List.length_nil]; omega)) ?_
      rintro _ w4 ⟨L1, hW, hS'⟩
      have hS := (hS.call (L := L) hS').sub (List.sublist_cons_self _ _)
      repeat (first | refine SemW.run tblOk ?_ | refine jA (by omega) ?_ | refine jB (by omega) ?_ | refine jC (by omega) ?_ | refine jD (by omega) ?_ | refine jE rfl ?_ | refine jF (by omega) ?_ | (refine jG ?_; first | with_reducible (first | refine jH ?_ | refine jI ?_ | refine jJ ?_ | refine jK ?_ | refine jL ?_) | refine jM (by omega) ?_ | refine jN (by omega) ?_ | with_reducible refine jM rfl ?_ | refine jM (by assumption) ?_ | refine jN (by assumption) ?_ | refine jM (by decide) ?_ | refine jN (by decide) ?_) | refine jF (ptr_ok tblOk rfl rfl) ?_ | refine jO (fun _ => by kernel_rfl) ?_ | refine jF (by decide) ?_)
      exact ⟨L1, hW, hS⟩
    · repeat (first | refine SemW.run tblOk ?_ | refine jA (by omega) ?_ | refine jB (by omega) ?_ | refine jC (by omega) ?_ | refine jD (by omega) ?_ | refine jE rfl ?_ | refine jF (by omega) ?_ | (refine jG ?_; first | with_reducible (first | refine jH ?_ | refine jI ?_ | refine jJ ?_ | refine jK ?_ | refine jL ?_) | refine jM (by omega) ?_ | refine jN (by omega) ?_ | with_reducible refine jM rfl ?_ | refine jM (by assumption) ?_ | refine jN (by assumption) ?_ | refine jM (by decide) ?_ | refine jN (by decide) ?_) | refine jF (ptr_ok tblOk rfl rfl) ?_ | refine jO (fun _ => by kernel_rfl) ?_ | refine jF (by decide) ?_)
      refine SemW.draw tblOk mixed (fun w' => St w T0 L w') [8] [0, 1, 2, 3, 5, 6, 7, 4, 8] (by kernel_rfl) hS.drew ?_
      have hS := hS.drew
      repeat (first | refine SemW.run tblOk ?_ | refine jA (by omega) ?_ | refine jB (by omega) ?_ | refine jC (by omega) ?_ | refine jD (by omega) ?_ | refine jE rfl ?_ | refine jF (by omega) ?_ | (refine jG ?_; first | with_reducible (first | refine jH ?_ | refine jI ?_ | refine jJ ?_ | refine jK ?_ | refine jL ?_) | refine jM (by omega) ?_ | refine jN (by omega) ?_ | with_reducible refine jM rfl ?_ | refine jM (by assumption) ?_ | refine jN (by assumption) ?_ | refine jM (by decide) ?_ | refine jN (by decide) ?_) | refine jF (ptr_ok tblOk rfl rfl) ?_ | refine jO (fun _ => by kernel_rfl) ?_ | refine jF (by decide) ?_ | refine hS.ldC rfl ?_ | refine hS.ldnC rfl ?_)
      refine hS.al ?_
      intro r w3 _ hS
      refine Chk.mk (hS.sub (List.sublist_cons_self _ _)) ?_
      repeat (first | refine SemW.run tblOk ?_ | refine jA (by omega) ?_ | refine jB (by omega) ?_ | refine jC (by omega) ?_ | refine jD (by omega) ?_ | refine jE rfl ?_ | refine jF (by omega) ?_ | (refine jG ?_; first | with_reducible (first | refine jH ?_ | refine jI ?_ | refine jJ ?_ | refine jK ?_ | refine jL ?_) | refine jM (by omega) ?_ | refine jN (by omega) ?_ | with_reducible refine jM rfl ?_ | refine jM (by assumption) ?_ | refine jN (by assumption) ?_ | refine jM (by decide) ?_ | refine jN (by decide) ?_) | refine jF (ptr_ok tblOk rfl rfl) ?_ | refine jO (fun _ => by kernel_rfl) ?_ | refine jF (by decide) ?_ | refine hS.ldC rfl ?_ | refine hS.ldnC rfl ?_)
      have hcell : ∀ j v, (cmdC c a cap)[j]? = some v → cb ∉ keys L ∧ w3.cell? ⟨cb, j, none⟩ = some v := fun j v h => hS.cellNew (L := L) hA.out (hA.cell j v h)
      refine InvG.mk ⟨f_wire_writer_int, wrV pb, by kernel_rfl, ?_⟩
      refine Cl.mono (wint_spec hW (hS.part (L := L)) (ps := [(cb, 3)]) (zs := [c.fl]) (hS.arr (b := r) (nodup_chunk hS)) rfl (ptrsAt_cons (hcell 3 _ rfl) ptrsAt_nil) (all1 hok.fl).2 (by simp only [List.length_append, List.length_cons, List.length_nil]; omega)) ?_
      rintro _ w4 ⟨L1, hW, hS'⟩
      have hS := (hS.call (L := L) hS').sub (List.sublist_cons_self _ _)
      repeat (first | refine SemW.run tblOk ?_ | refine jA (by omega) ?_ | refine jB (by omega) ?_ | refine jC (by omega) ?_ | refine jD (by omega) ?_ | refine jE rfl ?_ | refine jF (by omega) ?_ | (refine jG ?_; first | with_reducible (first | refine jH ?_ | refine jI ?_ | refine jJ ?_ | refine jK ?_ | refine jL ?_) | refine jM (by omega) ?_ | refine jN (by omega) ?_ | with_reducible refine jM rfl ?_ | refine jM (by assumption) ?_ | refine jN (by assumption) ?_ | refine jM (by decide) ?_ | refine jN (by decide) ?_) | refine jF (ptr_ok tblOk rfl rfl) ?_ | refine jO (fun _ => by kernel_rfl) ?_ | refine jF (by decide) ?_)
      exact ⟨L1, hW, hS⟩
    · repeat (first | refine SemW.run tblOk ?_ | refine jA (by omega) ?_ | refine jB (by omega) ?_ | refine jC (by omega) ?_ | refine jD (by omega) ?_ | refine jE rfl ?_ | refine jF (by omega) ?_ | (refine jG ?_; first | with_reducible (first | refine jH ?_ | refine jI ?_ | refine jJ ?_ | refine jK ?_ | refine jL ?_) | refine jM (by omega) ?_ | refine jN (by omega) ?_ | with_reducible refine jM rfl ?_ | refine jM (by assumption) ?_ | refine jN (by assumption) ?_ | refine jM (by decide) ?_ | refine jN (by decide) ?_) | refine jF (ptr_ok tblOk rfl rfl) ?_ | refine jO (fun _ => by kernel_rfl) ?_ | refine jF (by decide) ?_)
      refine SemW.draw tblOk mixed (fun w' => St w T0 L w') [8] [0, 1, 2, 3, 5, 6, 7, 4, 8] (by kernel_rfl) hS.drew ?_
      have hS := hS.drew
      repeat (first | refine SemW.run tblOk ?_ | refine jA (by omega) ?_ | refine jB (by omega) ?_ | refine jC (by omega) ?_ | refine jD (by omega) ?_ | refine jE rfl ?_ | refine jF (by omega) ?_ | (refine jG ?_; first | with_reducible (first | refine jH ?_ | refine jI ?_ | refine jJ ?_ | refine jK ?_ | refine jL ?_) | refine jM (by omega) ?_ | refine jN (by omega) ?_ | with_reducible refine jM rfl ?_ | refine jM (by assumption) ?_ | refine jN (by assumption) ?_ | refine jM (by decide) ?_ | refine jN (by decide) ?_) | refine jF (ptr_ok tblOk rfl rfl) ?_ | refine jO (fun _ => by kernel_rfl) ?_ | refine jF (by decide) ?_ | refine hS.ldC rfl ?_ | refine hS.ldnC rfl ?_)
      refine hS.al ?_
      intro r w3 _ hS
      refine Chk.mk (hS.sub (List.sublist_cons_self _ _)) ?_
      repeat (first | refine SemW.run tblOk ?_ | refine jA (by omega) ?_ | refine jB (by omega) ?_ | refine jC (by omega) ?_ | refine jD (by omega) ?_ | refine jE rfl ?_ | refine jF (by omega) ?_ | (refine jG ?_; first | with_reducible (first | refine jH ?_ | refine jI ?_ | refine jJ ?_ | refine jK ?_ | refine jL ?_) | refine jM (by omega) ?_ | refine jN (by omega) ?_ | with_reducible refine jM rfl ?_ | refine jM (by assumption) ?_ | refine jN (by assumption) ?_ | refine jM (by decide) ?_ | refine jN (by decide) ?_) | refine jF (ptr_ok tblOk rfl rfl) ?_ | refine jO (fun _ => by kernel_rfl) ?_ | refine jF (by decide) ?_ | refine hS.ldC rfl ?_ | refine hS.ldnC rfl ?_)
      have hcell : ∀ j v, (cmdC c a cap)[j]? = some v → cb ∉ keys L ∧ w3.cell? ⟨cb, j, none⟩ = some v := fun j v h => hS.cellNew (L := L) hA.out (hA.cell j v h)
      refine InvG.mk ⟨f_wire_writer_int, wrV pb, by kernel_rfl, ?_⟩
      refine Cl.mono (wint_spec hW (hS.part (L := L)) (ps := [(cb, 3)]) (zs := [c.fl]) (hS.arr (b := r) (nodup_chunk hS)) rfl (ptrsAt_cons (hcell 3 _ rfl) ptrsAt_nil) (all1 hok.fl).2 (by simp only [List.length_append, List.length_cons, List.length_nil]; omega)) ?_
      rintro _ w4 ⟨L1, hW, hS'⟩
      have hS := (hS.call (L := L) hS').sub (List.sublist_cons_self _ _)
      repeat (first | refine SemW.run tblOk ?_ | refine jA (by omega) ?_ | refine jB (by omega) ?_ | refine jC (by omega) ?_ | refine jD (by omega) ?_ | refine jE rfl ?_ | refine jF (by omega) ?_ | (refine jG ?_; first | with_reducible (first | refine jH ?_ | refine jI ?_ | refine jJ ?_ | refine jK ?_ | refine jL ?_) | refine jM (by omega) ?_ | refine jN (by omega) ?_ | with_reducible refine jM rfl ?_ | refine jM (by assumption) ?_ | refine jN (by assumption) ?_ | refine jM (by decide) ?_ | refine jN (by decide) ?_) | refine jF (ptr_ok tblOk rfl rfl) ?_ | refine jO (fun _ => by kernel_rfl) ?_ | refine jF (by decide) ?_)
      exact ⟨L1, hW, hS⟩
    · repeat (first | refine SemW.run tblOk ?_ | refine jA (by omega) ?_ | refine jB (by omega) ?_ | refine jC (by omega) ?_ | refine jD (by omega) ?_ | refine jE rfl ?_ | refine jF (by omega) ?_ | (refine jG ?_; first | with_reducible (first | refine jH ?_ | refine jI ?_ | refine jJ ?_ | refine jK ?_ | refine jL ?_) | refine jM (by omega) ?_ | refine jN (by omega) ?_ | with_reducible refine jM rfl ?_ | refine jM (by assumption) ?_ | refine jN (by assumption) ?_ | refine jM (by decide) ?_ | refine jN (by decide) ?_) | refine jF (ptr_ok tblOk rfl rfl) ?_ | refine jO (fun _ => by kernel_rfl) ?_ | refine jF (by decide) ?_)
      refine SemW.draw tblOk mixed (fun w' => St w T0 L w') [8] [0, 1, 2, 3, 5, 6, 7, 4, 8] (by kernel_rfl) hS.drew ?_
      have hS := hS.drew
      repeat (first | refine SemW.run tblOk ?_ | refine jA (by omega) ?_ | refine jB (by omega) ?_ | refine jC (by omega) ?_ | refine jD (by omega) ?_ | refine jE rfl ?_ | refine jF (by omega) ?_ | (refine jG ?_; first | with_reducible (first | refine jH ?_ | refine jI ?_ | refine jJ ?_ | refine jK ?_ | refine jL ?_) | refine jM (by omega) ?_ | refine jN (by omega) ?_ | with_reducible refine jM rfl ?_ | refine jM (by assumption) ?_ | refine jN (by assumption) ?_ | refine jM (by decide) ?_ | refine jN (by decide) ?_) | refine jF (ptr_ok tblOk rfl rfl) ?_ | refine jO (fun _ => by kernel_rfl) ?_ | refine jF (by decide) ?_ | refine hS.ldC rfl ?_ | refine hS.ldnC rfl ?_)
      refine hS.al ?_
      intro r w3 _ hS
      refine Chk.mk (hS.sub (List.sublist_cons_self _ _)) ?_
      repeat (first | refine SemW.run tblOk ?_ | refine jA (by omega) ?_ | refine jB (by omega) ?_ | refine jC (by omega) ?_ | refine jD (by omega) ?_ | refine jE rfl ?_ | refine jF (by omega) ?_ | (refine jG ?_; first | with_reducible (first | refine jH ?_ | refine jI ?_ | refine jJ ?_ | refine jK ?_ | refine jL ?_) | refine jM (by omega) ?_ | refine jN (by omega) ?_ | with_reducible refine jM rfl ?_ | refine jM (by assumption) ?_ | refine jN (by assumption) ?_ | refine jM (by decide) ?_ | refine jN (by decide) ?_) | refine jF (ptr_ok tblOk rfl rfl) ?_ | refine jO (fun _ => by kernel_rfl) ?_ | refine jF (by decide) ?_ | refine hS.ldC rfl ?_ | refine hS.ldnC rfl ?_)
      have hcell : ∀ j v, (cmdC c a cap)[j]? = some v → cb ∉ keys L ∧ w3.cell? ⟨cb, j, none⟩ = some v := fun j v h => hS.cellNew (L := L) hA.out (hA.cell j v h)
      refine InvG.mk ⟨f_wire_writer_int, wrV pb, by kernel_rfl, ?_⟩
      refine Cl.mono (wint_spec hW (hS.part (L := L)) (ps := [(cb, 3)]) (zs := [c.fl]) (hS.arr (b := r) (nodup_chunk hS)) rfl (ptrsAt_cons (hcell 3 _ rfl) ptrsAt_nil) (all1 hok.fl).2 (by simp only [List.length_append, List.length_cons, List.length_nil]; omega)) ?_
      rintro _ w4 ⟨L1, hW, hS'⟩
      have hS := (hS.call (L := L) hS').sub (List.sublist_cons_self _ _)
      repeat (first | refine SemW.run tblOk ?_ | refine jA (by omega) ?_ | refine jB (by omega) ?_ | refine jC (by omega) ?_ | refine jD (by omega) ?_ | refine jE rfl ?_ | refine jF (by omega) ?_ | (refine jG ?_; first | with_reducible (first | refine jH ?_ | refine jI ?_ | refine jJ ?_ | refine jK ?_ | refine jL ?_) | refine jM (by omega) ?_ | refine jN (by omega) ?_ | with_reducible refine jM rfl ?_ | refine jM (by assumption) ?_ | refine jN (by assumption) ?_ | refine jM (by decide) ?_ | refine jN (by decide) ?_) | refine jF (ptr_ok tblOk rfl rfl) ?_ | refine jO (fun _ => by kernel_rfl) ?_ | refine jF (by decide) ?_)
      exact ⟨L1, hW, hS⟩
  rw [if_neg hf]
  have hf9 : ¬ c.kind = 9 := fun h => hf (.inl h)
  have hf10 : ¬ c.kind = 10 := fun h => hf (.inr (.inl h))
  have hf13 : ¬ c.kind = 13 := fun h => hf (.inr (.inr (.inl h)))
  have hf14 : ¬ c.kind = 14 := fun h => hf (.inr (.inr (.inr h)))
  by_cases h12 : c.kind = 12
  · rw [if_pos h12]
    simp only [fieldsB]
    repeat (first | refine SemW.run tblOk ?_ | refine jA (by omega) ?_ | refine jB (by omega) ?_ | refine jC (by omega) ?_ | refine jD (by omega) ?_ | refine jE rfl ?_ | refine jF (by omega) ?_ | (refine jG ?_; first | with_reducible (first | refine jH ?_ | refine jI ?_ | refine jJ ?_ | refine jK ?_ | refine jL ?_) | refine jM (by omega) ?_ | refine jN (by omega) ?_ | with_reducible refine jM rfl ?_ | refine jM (by assumption) ?_ | refine jN (by assumption) ?_ | refine jM (by decide) ?_ | refine jN (by decide) ?_) | refine jF (ptr_ok tblOk rfl rfl) ?_ | refine jO (fun _ => by kernel_rfl) ?_ | refine jF (by decide) ?_)
    refine SemW.draw tblOk mixed (fun w' => St w T0 L w') [7] [0, 1, 2, 3, 4, 5, 6, 7] (by kernel_rfl) hS.drew ?_
    have hS := hS.drew
    repeat (first | refine SemW.run tblOk ?_ | refine jA (by omega) ?_ | refine jB (by omega) ?_ | refine jC (by omega) ?_ | refine jD (by omega) ?_ | refine jE rfl ?_ | refine jF (by omega) ?_ | (refine jG ?_; first | with_reducible (first | refine jH ?_ | refine jI ?_ | refine jJ ?_ | refine jK ?_ | refine jL ?_) | refine jM (by omega) ?_ | refine jN (by omega) ?_ | with_reducible refine jM rfl ?_ | refine jM (by assumption) ?_ | refine jN (by assumption) ?_ | refine jM (by decide) ?_ | refine jN (by decide) ?_) | refine jF (ptr_ok tblOk rfl rfl) ?_ | refine jO (fun _ => by kernel_rfl) ?_ | refine jF (by decide) ?_ | refine hS.ldC rfl ?_ | refine hS.ldnC rfl ?_)
    have hcell := hS.cellNew (L := L) hA.out (hA.cell 18 _ rfl)
    refine InvG.mk ⟨f_wire_writer_text, wrV pb, by kernel_rfl, ?_⟩
    refine Cl.mono (wtext_spec hW (hS.part (L := L)) (p := (cb, 18)) (x := c.text) hcell (by omega)) ?_
    rintro _ w7 ⟨L5, hW, hS'⟩
    have hS := hS.call (L := L) hS'
    repeat (first | refine SemW.run tblOk ?_ | refine jA (by omega) ?_ | refine jB (by omega) ?_ | refine jC (by omega) ?_ | refine jD (by omega) ?_ | refine jE rfl ?_ | refine jF (by omega) ?_ | (refine jG ?_; first | with_reducible (first | refine jH ?_ | refine jI ?_ | refine jJ ?_ | refine jK ?_ | refine jL ?_) | refine jM (by omega) ?_ | refine jN (by omega) ?_ | with_reducible refine jM rfl ?_ | refine jM (by assumption) ?_ | refine jN (by assumption) ?_ | refine jM (by decide) ?_ | refine jN (by decide) ?_) | refine jF (ptr_ok tblOk rfl rfl) ?_ | refine jO (fun _ => by kernel_rfl) ?_ | refine jF (by decide) ?_)
    exact ⟨L5, hW, hS⟩
  · rw [if_neg h12]
    simp only [fieldsB]
    repeat (first | refine SemW.run tblOk ?_ | refine jA (by omega) ?_ | refine jB (by omega) ?_ | refine jC (by omega) ?_ | refine jD (by omega) ?_ | refine jE rfl ?_ | refine jF (by omega) ?_ | (refine jG ?_; first | with_reducible (first | refine jH ?_ | refine jI ?_ | refine jJ ?_ | refine jK ?_ | refine jL ?_) | refine jM (by omega) ?_ | refine jN (by omega) ?_ | with_reducible refine jM rfl ?_ | refine jM (by assumption) ?_ | refine jN (by assumption) ?_ | refine jM (by decide) ?_ | refine jN (by decide) ?_) | refine jF (ptr_ok tblOk rfl rfl) ?_ | refine jO (fun _ => by kernel_rfl) ?_ | refine jF (by decide) ?_)
    refine SemW.draw tblOk mixed (fun w' => St w T0 L w') [8] [0, 1, 2, 3, 5, 6, 7, 4, 8] (by kernel_rfl) hS.drew ?_
    have hS := hS.drew
    repeat (first | refine SemW.run tblOk ?_ | refine jA (by omega) ?_ | refine jB (by omega) ?_ | refine jC (by omega) ?_ | refine jD (by omega) ?_ | refine jE rfl ?_ | refine jF (by omega) ?_ | (refine jG ?_; first | with_reducible (first | refine jH ?_ | refine jI ?_ | refine jJ ?_ | refine jK ?_ | refine jL ?_) | refine jM (by omega) ?_ | refine jN (by omega) ?_ | with_reducible refine jM rfl ?_ | refine jM (by assumption) ?_ | refine jN (by assumption) ?_ | refine jM (by decide) ?_ | refine jN (by decide) ?_) | refine jF (ptr_ok tblOk rfl rfl) ?_ | refine jO (fun _ => by kernel_rfl) ?_ | refine jF (by decide) ?_ | refine hS.ldC rfl ?_ | refine hS.ldnC rfl ?_)
    refine hS.al ?_
    intro r w3 _ hS
    refine Chk.mk (hS.sub (List.sublist_cons_self _ _)) ?_
    repeat (first | refine SemW.run tblOk ?_ | refine jA (by omega) ?_ | refine jB (by omega) ?_ | refine jC (by omega) ?_ | refine jD (by omega) ?_ | refine jE rfl ?_ | refine jF (by omega) ?_ | (refine jG ?_; first | with_reducible (first | refine jH ?_ | refine jI ?_ | refine jJ ?_ | refine jK ?_ | refine jL ?_) | refine jM (by omega) ?_ | refine jN (by omega) ?_ | with_reducible refine jM rfl ?_ | refine jM (by assumption) ?_ | refine jN (by assumption) ?_ | refine jM (by decide) ?_ | refine jN (by decide) ?_) | refine jF (ptr_ok tblOk rfl rfl) ?_ | refine jO (fun _ => by kernel_rfl) ?_ | refine jF (by decide) ?_ | refine hS.ldC rfl ?_ | refine hS.ldnC rfl ?_)
    have hcell : ∀ j v, (cmdC c a cap)[j]? = some v → cb ∉ keys L ∧ w3.cell? ⟨cb, j, none⟩ = some v := fun j v h => hS.cellNew (L := L) hA.out (hA.cell j v h)
    refine InvG.mk ⟨f_wire_writer_int, wrV pb, by kernel_rfl, ?_⟩
    refine Cl.mono (wint_spec hW (hS.part (L := L)) (ps := [(cb, 2)]) (zs := [c.id]) (hS.arr (b := r) (nodup_chunk hS)) rfl (ptrsAt_cons (hcell 2 _ rfl) ptrsAt_nil) (all1 hok.id).2 (by simp only [List.length_append, List.length_cons, List.length_nil]; omega)) ?_
    rintro _ w4 ⟨L1, hW, hS'⟩
    have hS := (hS.call (L := L) hS').sub (List.sublist_cons_self _ _)
    repeat (first | refine SemW.run tblOk ?_ | refine jA (by omega) ?_ | refine jB (by omega) ?_ | refine jC (by omega) ?_ | refine jD (by omega) ?_ | refine jE rfl ?_ | refine jF (by omega) ?_ | (refine jG ?_; first | with_reducible (first | refine jH ?_ | refine jI ?_ | refine jJ ?_ | refine jK ?_ | refine jL ?_) | refine jM (by omega) ?_ | refine jN (by omega) ?_ | with_reducible refine jM rfl ?_ | refine jM (by assumption) ?_ | refine jN (by assumption) ?_ | refine jM (by decide) ?_ | refine jN (by decide) ?_) | refine jF (ptr_ok tblOk rfl rfl) ?_ | refine jO (fun _ => by kernel_rfl) ?_ | refine jF (by decide) ?_)
    exact ⟨L1, hW, hS⟩
end Go.Proofs.YthpmmfapolcaiaaDoor

/- == and != on structs of numbers, bools, texts and such structs. -/
namespace Go.Eng
open Go

section
variable {P : Program} {T0 : Tbl}
def PartIs (P : Program) (t : TypeId) (xs : List Value) (off : Nat) (v : Value) : Prop := ∀ w, (part t ⟨xs⟩ off).run P w = .ok v w
theorem PartIs.one (hT : TOk P T0) {t : TypeId} {i : TI} (hi : tf T0 t = some i) (ha : i.agg = false) {xs : List Value} {off : Nat} {v : Value} (hx : xs[off]? = some v) : PartIs P t xs off v := by
  intro w
  have h1 := load_one hT hi ha w
  simp [part, h1]
  rw [hx]; rfl
theorem PartIs.agg (hT : TOk P T0) {t : TypeId} {i : TI} (hi : tf T0 t = some i) (ha : i.agg = true) {xs vs : List Value} {off : Nat} (hx : (xs.drop off).take i.size = vs) : PartIs P t xs off (.agg ⟨vs⟩) := by
  intro w
  have h1 := load_agg hT hi ha w
  have h2 := size_of hT hi w
  simp [part, h1, h2]
  exact hx
/-- Two values of a type are compared, however deep n parts below may lie. -/
def EqV (n : Nat) (P : Program) (t : TypeId) (a b : Value) (r : Bool) : Prop := ∀ k w, (Op.equalIn (k + n) t a b).run P w = .ok r w
def fieldRows (fs : List Field) : List (Bool × TypeId × Nat) := fs.map fun f => (decide (f.name ≠ "_"), f.type, f.offset)
def EqFs (n : Nat) (P : Program) (xs ys : List Value) (d : List (TypeId × Nat)) (r : Bool) : Prop :=
  ∀ (fs : List Field), fieldRows fs = d.map (fun x => (true, x.1, x.2)) → ∀ k w, (Op.eqFields (k + n) ⟨xs⟩ ⟨ys⟩ fs).run P w = .ok r w
theorem EqV.int {n : Nat} (hT : TOk P T0) {t : TypeId} {i : TI} (hi : tf T0 t = some i) {kk k : IntKind} (hk : i.k = .int kk) (a b : Int) : EqV (n + 1) P t (.int k a) (.int k b) (decide (a = b)) := by
  intro d w
  have h := und_of hT hi; rw [hk] at h
  rw [show decide (a = b) = (a == b) by rw [Bool.eq_iff_iff]; simp]
  exact run_equalIn_int w (d + n) t k kk a b h
theorem EqV.bool {n : Nat} (hT : TOk P T0) {t : TypeId} {i : TI} (hi : tf T0 t = some i) (hk : i.k = .bool) (a b : Bool) : EqV (n + 1) P t (.bool a) (.bool b) (decide (a = b)) := by
  intro d w
  have h := und_of hT hi; rw [hk] at h
  rw [show decide (a = b) = (a == b) by rw [Bool.eq_iff_iff]; simp]
  exact run_equalIn_bool' w (d + n) t a b h
theorem EqV.str {n : Nat} (hT : TOk P T0) {t : TypeId} {i : TI} (hi : tf T0 t = some i) (hk : i.k = .str) (a b : List UInt8) : EqV (n + 1) P t (Str a) (Str b) (decide (a = b)) := by
  intro d w
  have h := und_of hT hi; rw [hk] at h
  rw [show decide (a = b) = ((⟨⟨a⟩⟩ : ByteArray).toList == (⟨⟨b⟩⟩ : ByteArray).toList) by rw [bytes_toList, bytes_toList, Bool.eq_iff_iff]; simp]
  exact run_equalIn_string w (d + n) t _ _ h
theorem EqFs.nil {n : Nat} {xs ys : List Value} : EqFs n P xs ys [] true := by
  intro fs h k w
  cases fs with
  | nil => simp [Op.eqFields]
  | cons f fs => simp [fieldRows] at h
theorem EqFs.cons {n : Nat} {xs ys : List Value} {t : TypeId} {off : Nat} {d : List (TypeId × Nat)} {a b : Value} {r1 r2 : Bool} (h1 : PartIs P t xs off a) (h2 : PartIs P t ys off b) (h3 : EqV n P t a b r1) (h4 : EqFs n P xs ys d r2) :
    EqFs n P xs ys ((t, off) :: d) (r1 && r2) := by
  intro fs h k w
  cases fs with
  | nil => simp [fieldRows] at h
  | cons f fs =>
    simp only [fieldRows, List.map_cons, List.cons.injEq, Prod.mk.injEq, decide_eq_true_eq] at h
    obtain ⟨⟨hn, rfl, rfl⟩, h⟩ := h
    have e := h4 fs h k w
    simp only [Op.eqFields, if_pos hn, Sem.run_bind, h1 w, h2 w, h3 k w, Result.andThen_ok, Sem.run_ite]
    cases r1 with
    | false => simp
    | true => simp [e]
theorem EqV.struct {n : Nat} {t : TypeId} {d : List (TypeId × Nat)} (ht : P.underlying t = some (.struct (P.fieldsOf t))) (hp : P.stoodInHeld t = false) (hd : fieldRows (P.fieldsOf t).toList = d.map (fun x => (true, x.1, x.2))) {xs ys : List Value} {r : Bool} (h : EqFs n P xs ys d r) :
    EqV (n + 1) P t (.agg ⟨xs⟩) (.agg ⟨ys⟩) r := by
  intro k w
  rw [show k + (n + 1) = (k + n) + 1 by omega, run_equalIn_struct w (k + n) t _ _ ht hp]
  exact h _ hd k w
theorem eqlAgg {n : Nat} {t : TypeId} {x y : Operand} {xs ys : List Value} {r : Bool} (hn : n ≤ 10000) (hm : P.eqGuardType P.depth t = false) (h : EqV n P t (.agg ⟨xs⟩) (.agg ⟨ys⟩) r) {K : Value → Prop} (hK : K (.bool r)) :
    PureRun P (do eqGuard .eql t x y (.agg ⟨xs⟩) (.agg ⟨ys⟩); binOp .eql t (.agg ⟨xs⟩) (.agg ⟨ys⟩)) K := by
  refine ⟨_, fun w => ?_, hK⟩
  have h1 := run_eqGuard_agg (P := P) w .eql t x y ⟨xs⟩ ⟨ys⟩ hm
  have h2 := h (10000 - n) w
  rw [show 10000 - n + n = 10000 by omega] at h2
  simp only [Sem.run_bind, h1, Result.andThen_ok, run_eql_struct, h2]
theorem neqAgg {n : Nat} {t : TypeId} {x y : Operand} {xs ys : List Value} {r : Bool} (hn : n ≤ 10000) (hm : P.eqGuardType P.depth t = false) (h : EqV n P t (.agg ⟨xs⟩) (.agg ⟨ys⟩) r) {K : Value → Prop} (hK : K (.bool (!r))) :
    PureRun P (do eqGuard .neq t x y (.agg ⟨xs⟩) (.agg ⟨ys⟩); binOp .neq t (.agg ⟨xs⟩) (.agg ⟨ys⟩)) K := by
  refine ⟨_, fun w => ?_, hK⟩
  have h1 := run_eqGuard_agg (P := P) w .neq t x y ⟨xs⟩ ⟨ys⟩ hm
  have h2 := h (10000 - n) w
  rw [show 10000 - n + n = 10000 by omega] at h2
  simp only [Sem.run_bind, h1, Result.andThen_ok, run_neq_struct, h2]
end
end Go.Eng

/- Seats compared. -/
namespace Go.Proofs.YthpmmfapolcaiaaDoor
open Go Go.Eng Go.Proofs
theorem eqSeat (a : Int) (c : Nat) (b : Int) (d : Nat) : EqV 2 Tryd.prog T_api_Seat (seatV a c) (seatV b d) (decide (a = b ∧ c = d)) := by
  have h : EqV 2 Tryd.prog T_api_Seat (seatV a c) (seatV b d) (decide (a = b) && (decide ((c : Int) = (d : Int)) && true)) := by
    refine EqV.struct (d := [(T_int, 0), (T_uint8, 1)]) (by kernel_rfl) (by kernel_rfl) (by kernel_rfl) ?_
    refine EqFs.cons (PartIs.one tblOk rfl rfl rfl) (PartIs.one tblOk rfl rfl rfl) (EqV.int tblOk rfl rfl _ _) ?_
    exact EqFs.cons (PartIs.one tblOk rfl rfl rfl) (PartIs.one tblOk rfl rfl rfl) (EqV.int tblOk rfl rfl _ _) EqFs.nil
  have e : decide (a = b ∧ c = d) = (decide (a = b) && (decide ((c : Int) = (d : Int)) && true)) := by
    rw [Bool.eq_iff_iff]; simp; omega
  rw [e]; exact h
end Go.Proofs.YthpmmfapolcaiaaDoor

/- == on arrays, item by item. -/
namespace Go.Eng
open Go
section
variable {P : Program} {T0 : Tbl}
def EqIt (n : Nat) (P : Program) (e : TypeId) (sz : Nat) (xs ys : List Value) (is : List Nat) (r : Bool) : Prop := ∀ k w, (Op.eqItems (k + n) e sz ⟨xs⟩ ⟨ys⟩ is).run P w = .ok r w
theorem EqIt.nil {n : Nat} {e : TypeId} {sz : Nat} {xs ys : List Value} : EqIt n P e sz xs ys [] true := fun k w => by simp [Op.eqItems]
theorem EqIt.cons {n : Nat} {e : TypeId} {sz i : Nat} {xs ys : List Value} {is : List Nat} {a b : Value} {r1 r2 : Bool} (h1 : PartIs P e xs (i * sz) a) (h2 : PartIs P e ys (i * sz) b) (h3 : EqV n P e a b r1) (h4 : EqIt n P e sz xs ys is r2) : EqIt n P e sz xs ys (i :: is) (r1 && r2) := fun k w => by
  have e4 := h4 k w
  simp only [Op.eqItems, Sem.run_bind, h1 w, h2 w, h3 k w, Result.andThen_ok]
  cases r1 with
  | false => simp
  | true => simp [e4]
theorem EqV.arr {n m sz : Nat} {t e : TypeId} {i : TypeInfo} (hu : P.underlying t = some (.array m e)) (hi : P.info? e = some i) (hs : P.cellsOf e = sz) {xs ys : List Value} {r : Bool} (h : EqIt n P e sz xs ys (List.range m) r) : EqV (n + 1) P t (.agg ⟨xs⟩) (.agg ⟨ys⟩) r := fun k w => by
  rw [show k + (n + 1) = (k + n) + 1 by omega, run_equalIn_array w (k + n) ⟨xs⟩ ⟨ys⟩ hu hi, hs]
  exact h k w
end
end Go.Eng

/- Comparing a slice with nil. -/
namespace Go.Eng
open Go
theorem eqlSlNil {P : Program} {T0 : Tbl} (hT : TOk P T0) {t e : TypeId} {sz : Nat} {i : TI} (hi : tf T0 t = some i) (hk : i.k = .slice e sz) {x y : Operand} {a : Option Addr} {n c : Nat} {K : Value → Prop} (hK : K (.bool a.isNone)) :
    PureRun P (do eqGuard .eql t x y (.slice a n c) (.slice none 0 0); binOp .eql t (.slice a n c) (.slice none 0 0)) K := by
  have h := und_of hT hi; rw [hk] at h
  have h2 : P.underlying t = some (.slice e) := h.1
  refine ⟨_, fun w => ?_, hK⟩
  rw [Sem.run_bind, run_eqGuard_of P .eql t x y _ _ w (by intro c h; cases h) (by intro h; cases h)]
  exact Lib.run_eql_slice_nil w t e a n c 0 0 h2
end Go.Eng

/- Package wire: rows and commands compared; what is small; rows cloned. -/
namespace Go.Proofs.YthpmmfapolcaiaaDoor
open Go Go.Eng Go.Proofs
/-- Rows that can be read. -/
structure RowsAt (w : World) (a : Option Addr) (cap : Nat) (rs : List RowM) : Prop where
  arr : Arr w [] a (rs.flatMap rowC)
  cap : rs.length ≤ cap
theorem RowsAt.keep {w0 w : World} {H : Heap} (hS : St w0 [] H w) {a : Option Addr} {cap : Nat} {rs : List RowM} (h : RowsAt w0 a cap rs) : RowsAt w a cap rs := ⟨hS.arrOld h.arr, h.cap⟩
theorem RowsAt.pos {w : World} {a : Option Addr} {cap : Nat} {l : List RowM} (h : RowsAt w a cap l) (hl : 0 < l.length) : ∃ g off, a = some ⟨g, off, none⟩ := by
  have := flatRow_len l
  obtain ⟨g, off, hg, -, -⟩ := h.arr.get (j := 0) (by omega)
  exact ⟨g, off, hg⟩
theorem flatRow_take (rs : List RowM) (k : Nat) (hk : k < rs.length) : ((rs.flatMap rowC).drop (k * 5)).take 5 = rowC rs[k] := by
  apply List.ext_getElem?
  intro j
  rw [List.getElem?_take]
  split
  · next hj => rw [List.getElem?_drop, flatRow_at rs k hk j hj]
  · next hj => rw [List.getElem?_eq_none (by show 5 ≤ j; omega)]
theorem rowsAt_vec {w0 w : World} {T : List Nat} {H L : Heap} {F : Heap → Heap} (hS : St w0 T H w) [hc : Chunk H L F] {a : Option Addr} {n cap : Nat} {l : List RowM} (hv : Vec T_api_Row 5 a n cap (l.flatMap rowC) L) : RowsAt w a cap l := by
  have h1 := flatRow_len l
  have h2 := hv.len
  exact ⟨hv.arr hS (by simp), by have := hv.cap; omega⟩
theorem rowsC_one (l : List RowM) : (l.flatMap rowC).all Value.oneCell' = true := by
  induction l with
  | nil => rfl
  | cons p ps ih => rw [List.flatMap_cons, List.all_append, ih]; rfl
abbrev rowV (r : RowM) : Value := .agg ⟨rowC r⟩
theorem eqRow (a b : RowM) : EqV 2 Tryd.prog T_api_Row (rowV a) (rowV b) (decide (a = b)) := by
  have h : EqV 2 Tryd.prog T_api_Row (rowV a) (rowV b) (decide (a.num = b.num) && (decide (a.cab = b.cab) && (decide (a.zone = b.zone) && (decide (a.exit = b.exit) && (decide (a.seats = b.seats) && true))))) := by
    refine EqV.struct (d := [(T_int, 0), (T_int, 1), (T_int, 2), (T_bool, 3), (T_string, 4)]) (by kernel_rfl) (by kernel_rfl) (by kernel_rfl) ?_
    refine EqFs.cons (PartIs.one tblOk rfl rfl rfl) (PartIs.one tblOk rfl rfl rfl) (EqV.int tblOk rfl rfl _ _) ?_
    refine EqFs.cons (PartIs.one tblOk rfl rfl rfl) (PartIs.one tblOk rfl rfl rfl) (EqV.int tblOk rfl rfl _ _) ?_
    refine EqFs.cons (PartIs.one tblOk rfl rfl rfl) (PartIs.one tblOk rfl rfl rfl) (EqV.int tblOk rfl rfl _ _) ?_
    refine EqFs.cons (PartIs.one tblOk rfl rfl rfl) (PartIs.one tblOk rfl rfl rfl) (EqV.bool tblOk rfl rfl _ _) ?_
    exact EqFs.cons (PartIs.one tblOk rfl rfl rfl) (PartIs.one tblOk rfl rfl rfl) (EqV.str tblOk rfl rfl _ _) EqFs.nil
  have e : decide (a = b) = (decide (a.num = b.num) && (decide (a.cab = b.cab) && (decide (a.zone = b.zone) && (decide (a.exit = b.exit) && (decide (a.seats = b.seats) && true))))) := by
    rw [Bool.eq_iff_iff]
    simp only [decide_eq_true_eq, Bool.and_eq_true, and_true]
    constructor
    · rintro rfl; exact ⟨rfl, rfl, rfl, rfl, rfl⟩
    · rintro ⟨h1, h2, h3, h4, h5⟩
      cases a; cases b
      simp only at h1 h2 h3 h4 h5
      rw [h1, h2, h3, h4, h5]
  rw [e]; exact h
set_option maxHeartbeats 2000000 in
theorem equalRows_spec {w : World} {a b : Option Addr} {ca cb : Nat} {rs qs : List RowM} (hr : RowsAt w a ca rs) (hq : RowsAt w b cb qs) (hl : rs.length ≤ 1099511627776) :
    Cl Tryd.prog f_slices_Equal_api_Row_api_Row [.slice a rs.length ca, .slice b qs.length cb] w fun v w' => v = .bool (decide (rs = qs)) ∧ St w [] [] w' := by
  have hS := St.start w
  refine en_slices_Equal_api_Row_api_Row rfl ?_
  by_cases hlen : rs.length = qs.length
  · repeat (first | refine SemW.run tblOk ?_ | refine jA (by omega) ?_ | refine jB (by omega) ?_ | refine jC (by omega) ?_ | refine jD (by omega) ?_ | refine jE rfl ?_ | refine jF (by omega) ?_ | (refine jG ?_; first | with_reducible (first | refine jH ?_ | refine jI ?_ | refine jJ ?_ | refine jK ?_ | refine jL ?_) | refine jM (by omega) ?_ | refine jN (by omega) ?_ | with_reducible refine jM rfl ?_ | refine jM (by assumption) ?_ | refine jN (by assumption) ?_ | refine jM (by decide) ?_ | refine jN (by decide) ?_) | refine jF (ptr_ok tblOk rfl rfl) ?_ | refine jO (fun _ => by kernel_rfl) ?_ | refine jF (by decide) ?_)
    refine SemW.loop (fun k : Nat => [(0, .slice a rs.length ca), (1, .slice b qs.length cb), (12, .int .i64 rs.length), (13, .int .i64 k)])
      (fun k w' => (k ≤ rs.length ∧ rs.take k = qs.take k) ∧ St w [] [] w') (fun k => rs.length - k) 0
      ⟨rfl, rfl, rfl, rfl, trivial⟩ ⟨⟨Nat.zero_le _, rfl⟩, hS⟩ ?_
    clear hS
    rintro k w1 ⟨⟨hk, hno⟩, hS⟩
    by_cases hkl : k < rs.length
    · have hkq : k < qs.length := by omega
      obtain ⟨g, off, rfl⟩ := hr.pos (by omega)
      obtain ⟨g', off', rfl⟩ := hq.pos (by omega)
      have hat := flatRow_take rs k hkl
      have haq := flatRow_take qs k hkq
      have hsr := List.take_succ_eq_append_getElem hkl
      have hsq := List.take_succ_eq_append_getElem hkq
      have hne : ¬ rs[k] = qs[k] → ¬ rs = qs := fun h e => h (by subst e; rfl)
      generalize rs[k] = x at hat hsr hne
      generalize qs[k] = y at haq hsq hne
      repeat (first | refine SemW.run tblOk ?_ | refine jA (by omega) ?_ | refine jB (by omega) ?_ | refine jC (by omega) ?_ | refine jD (by omega) ?_ | refine jE rfl ?_ | refine jF (by omega) ?_ | (refine jG ?_; first | with_reducible (first | refine jH ?_ | refine jI ?_ | refine jJ ?_ | refine jK ?_ | refine jL ?_) | refine jM (by omega) ?_ | refine jN (by omega) ?_ | with_reducible refine jM rfl ?_ | refine jM (by assumption) ?_ | refine jN (by assumption) ?_ | refine jM (by decide) ?_ | refine jN (by decide) ?_) | refine jF (ptr_ok tblOk rfl rfl) ?_ | refine jO (fun _ => by kernel_rfl) ?_ | refine jF (by decide) ?_)
      refine SemW.draw tblOk mixed (fun w' => St w [] [] w') [] [0, 1, 2, 3, 4, 5, 6, 7, 8] (by kernel_rfl) hS.drew ?_
      have hS := hS.drew
      repeat (first | refine SemW.run tblOk ?_ | refine jA (by omega) ?_ | refine jB (by omega) ?_ | refine jC (by omega) ?_ | refine jD (by omega) ?_ | refine jE rfl ?_ | refine jF (by omega) ?_ | (refine jG ?_; first | with_reducible (first | refine jH ?_ | refine jI ?_ | refine jJ ?_ | refine jK ?_ | refine jL ?_) | refine jM (by omega) ?_ | refine jN (by omega) ?_ | with_reducible refine jM rfl ?_ | refine jM (by assumption) ?_ | refine jN (by assumption) ?_ | refine jM (by decide) ?_ | refine jN (by decide) ?_) | refine jF (ptr_ok tblOk rfl rfl) ?_ | refine jO (fun _ => by kernel_rfl) ?_ | refine jF (by decide) ?_ | refine hS.ldC rfl ?_ | refine hS.ldnC rfl ?_)
      refine Arr.ldnC hr.arr (k := k * 5) hat rfl rfl ?_
      repeat (first | refine SemW.run tblOk ?_ | refine jA (by omega) ?_ | refine jB (by omega) ?_ | refine jC (by omega) ?_ | refine jD (by omega) ?_ | refine jE rfl ?_ | refine jF (by omega) ?_ | (refine jG ?_; first | with_reducible (first | refine jH ?_ | refine jI ?_ | refine jJ ?_ | refine jK ?_ | refine jL ?_) | refine jM (by omega) ?_ | refine jN (by omega) ?_ | with_reducible refine jM rfl ?_ | refine jM (by assumption) ?_ | refine jN (by assumption) ?_ | refine jM (by decide) ?_ | refine jN (by decide) ?_) | refine jF (ptr_ok tblOk rfl rfl) ?_ | refine jO (fun _ => by kernel_rfl) ?_ | refine jF (by decide) ?_ | refine hS.ldC rfl ?_ | refine hS.ldnC rfl ?_)
      refine Arr.ldnC hq.arr (k := k * 5) haq rfl rfl ?_
      repeat (first | refine SemW.run tblOk ?_ | refine jA (by omega) ?_ | refine jB (by omega) ?_ | refine jC (by omega) ?_ | refine jD (by omega) ?_ | refine jE rfl ?_ | refine jF (by omega) ?_ | (refine jG ?_; first | with_reducible (first | refine jH ?_ | refine jI ?_ | refine jJ ?_ | refine jK ?_ | refine jL ?_) | refine jM (by omega) ?_ | refine jN (by omega) ?_ | with_reducible refine jM rfl ?_ | refine jM (by assumption) ?_ | refine jN (by assumption) ?_ | refine jM (by decide) ?_ | refine jN (by decide) ?_) | refine jF (ptr_ok tblOk rfl rfl) ?_ | refine jO (fun _ => by kernel_rfl) ?_ | refine jF (by decide) ?_ | refine hS.ldC rfl ?_ | refine hS.ldnC rfl ?_)
      refine neqAgg (n := 2) (by omega) (by kernel_rfl) (eqRow x y) ?_
      by_cases hxy : x = y
      · rw [decide_eq_true hxy, Bool.not_true]
        repeat (first | refine SemW.run tblOk ?_ | refine jA (by omega) ?_ | refine jB (by omega) ?_ | refine jC (by omega) ?_ | refine jD (by omega) ?_ | refine jE rfl ?_ | refine jF (by omega) ?_ | (refine jG ?_; first | with_reducible (first | refine jH ?_ | refine jI ?_ | refine jJ ?_ | refine jK ?_ | refine jL ?_) | refine jM (by omega) ?_ | refine jN (by omega) ?_ | with_reducible refine jM rfl ?_ | refine jM (by assumption) ?_ | refine jN (by assumption) ?_ | refine jM (by decide) ?_ | refine jN (by decide) ?_) | refine jF (ptr_ok tblOk rfl rfl) ?_ | refine jO (fun _ => by kernel_rfl) ?_ | refine jF (by decide) ?_ | refine hS.ldC rfl ?_ | refine hS.ldnC rfl ?_)
        exact ⟨k + 1, ⟨rfl, rfl, rfl, rfl, trivial⟩, ⟨⟨by omega, by rw [hsr, hsq, hno, hxy]⟩, hS⟩, by omega⟩
      · rw [decide_eq_false hxy, Bool.not_false]
        repeat (first | refine SemW.run tblOk ?_ | refine jA (by omega) ?_ | refine jB (by omega) ?_ | refine jC (by omega) ?_ | refine jD (by omega) ?_ | refine jE rfl ?_ | refine jF (by omega) ?_ | (refine jG ?_; first | with_reducible (first | refine jH ?_ | refine jI ?_ | refine jJ ?_ | refine jK ?_ | refine jL ?_) | refine jM (by omega) ?_ | refine jN (by omega) ?_ | with_reducible refine jM rfl ?_ | refine jM (by assumption) ?_ | refine jN (by assumption) ?_ | refine jM (by decide) ?_ | refine jN (by decide) ?_) | refine jF (ptr_ok tblOk rfl rfl) ?_ | refine jO (fun _ => by kernel_rfl) ?_ | refine jF (by decide) ?_ | refine hS.ldC rfl ?_ | refine hS.ldnC rfl ?_)
        exact ⟨by rw [decide_eq_false (hne hxy)], hS⟩
    · have hke : k = rs.length := by omega
      rw [hke, List.take_length, hlen, List.take_length] at hno
      repeat (first | refine SemW.run tblOk ?_ | refine jA (by omega) ?_ | refine jB (by omega) ?_ | refine jC (by omega) ?_ | refine jD (by omega) ?_ | refine jE rfl ?_ | refine jF (by omega) ?_ | (refine jG ?_; first | with_reducible (first | refine jH ?_ | refine jI ?_ | refine jJ ?_ | refine jK ?_ | refine jL ?_) | refine jM (by omega) ?_ | refine jN (by omega) ?_ | with_reducible refine jM rfl ?_ | refine jM (by assumption) ?_ | refine jN (by assumption) ?_ | refine jM (by decide) ?_ | refine jN (by decide) ?_) | refine jF (ptr_ok tblOk rfl rfl) ?_ | refine jO (fun _ => by kernel_rfl) ?_ | refine jF (by decide) ?_)
      exact ⟨by rw [decide_eq_true hno], hS⟩
  · repeat (first | refine SemW.run tblOk ?_ | refine jA (by omega) ?_ | refine jB (by omega) ?_ | refine jC (by omega) ?_ | refine jD (by omega) ?_ | refine jE rfl ?_ | refine jF (by omega) ?_ | (refine jG ?_; first | with_reducible (first | refine jH ?_ | refine jI ?_ | refine jJ ?_ | refine jK ?_ | refine jL ?_) | refine jM (by omega) ?_ | refine jN (by omega) ?_ | with_reducible refine jM rfl ?_ | refine jM (by assumption) ?_ | refine jN (by assumption) ?_ | refine jM (by decide) ?_ | refine jN (by decide) ?_) | refine jF (ptr_ok tblOk rfl rfl) ?_ | refine jO (fun _ => by kernel_rfl) ?_ | refine jF (by decide) ?_)
    exact ⟨by rw [decide_eq_false (fun e => hlen (by rw [e]))], hS⟩
theorem small1_spec {w : World} (r : RowM) (hr : r.seats.length ≤ 70368744177664) : Cl Tryd.prog f_wire_small_1 [rowV r] w fun v w' => v = .bool (decide (40 < r.seats.length)) ∧ St w [] [] w' := by
  have hS := St.start w
  unfold rowV rowC
  refine en_wire_small_1 rfl ?_
  repeat (first | refine SemW.run tblOk ?_ | refine jA (by omega) ?_ | refine jB (by omega) ?_ | refine jC (by omega) ?_ | refine jD (by omega) ?_ | refine jE rfl ?_ | refine jF (by omega) ?_ | (refine jG ?_; first | with_reducible (first | refine jH ?_ | refine jI ?_ | refine jJ ?_ | refine jK ?_ | refine jL ?_) | refine jM (by omega) ?_ | refine jN (by omega) ?_ | with_reducible refine jM rfl ?_ | refine jM (by assumption) ?_ | refine jN (by assumption) ?_ | refine jM (by decide) ?_ | refine jN (by decide) ?_) | refine jF (ptr_ok tblOk rfl rfl) ?_ | refine jO (fun _ => by kernel_rfl) ?_ | refine jF (by decide) ?_)
  refine hS.al ?_
  intro b w1 _ hS
  repeat (first | refine SemW.run tblOk ?_ | refine jA (by omega) ?_ | refine jB (by omega) ?_ | refine jC (by omega) ?_ | refine jD (by omega) ?_ | refine jE rfl ?_ | refine jF (by omega) ?_ | (refine jG ?_; first | with_reducible (first | refine jH ?_ | refine jI ?_ | refine jJ ?_ | refine jK ?_ | refine jL ?_) | refine jM (by omega) ?_ | refine jN (by omega) ?_ | with_reducible refine jM rfl ?_ | refine jM (by assumption) ?_ | refine jN (by assumption) ?_ | refine jM (by decide) ?_ | refine jN (by decide) ?_) | refine jF (ptr_ok tblOk rfl rfl) ?_ | refine jO (fun _ => by kernel_rfl) ?_ | refine jF (by decide) ?_ | refine hS.ld rfl ?_ | refine hS.ldn rfl ?_ | (refine hS.st rfl rfl ?_; intro _ hS))
  refine ⟨?_, hS.nil⟩
  rw [Value.bool.injEq, decide_eq_decide]
  omega
def longRow (rs : List RowM) : Bool := rs.any fun r => decide (40 < r.seats.length)
abbrev smallF : Value := .func (.func f_wire_small_1) ⟨[]⟩ ⟨[]⟩
theorem indexRow_spec {w : World} {a : Option Addr} {cap : Nat} {l : List RowM} (ha : RowsAt w a cap l) (hlen : l.length ≤ 16777216) (hs : ∀ r ∈ l, r.seats.length ≤ 70368744177664) :
    Cl Tryd.prog f_slices_IndexFunc_api_Row_api_Row [.slice a l.length cap, smallF] w fun v w' => (∃ n, v = .int .i64 n ∧ (0 ≤ n ↔ longRow l = true)) ∧ St w [] [] w' := by
  have hS := St.start w
  refine en_slices_IndexFunc_api_Row_api_Row rfl ?_
  repeat (first | refine SemW.run tblOk ?_ | refine jA (by omega) ?_ | refine jB (by omega) ?_ | refine jC (by omega) ?_ | refine jD (by omega) ?_ | refine jE rfl ?_ | refine jF (by omega) ?_ | (refine jG ?_; first | with_reducible (first | refine jH ?_ | refine jI ?_ | refine jJ ?_ | refine jK ?_ | refine jL ?_) | refine jM (by omega) ?_ | refine jN (by omega) ?_ | with_reducible refine jM rfl ?_ | refine jM (by assumption) ?_ | refine jN (by assumption) ?_ | refine jM (by decide) ?_ | refine jN (by decide) ?_) | refine jF (ptr_ok tblOk rfl rfl) ?_ | refine jO (fun _ => by kernel_rfl) ?_ | refine jF (by decide) ?_)
  refine SemW.loop (fun k : Nat => [(0, .slice a l.length cap), (1, smallF), (7, .int .i64 l.length), (8, .int .i64 k)])
    (fun k w' => (k ≤ l.length ∧ longRow (l.take k) = false) ∧ St w [] [] w') (fun k => l.length - k) 0
    ⟨rfl, rfl, rfl, rfl, trivial⟩ ⟨⟨Nat.zero_le _, rfl⟩, hS⟩ ?_
  clear hS
  rintro k w1 ⟨⟨hk, hno⟩, hS⟩
  by_cases hkl : k < l.length
  · obtain ⟨g, off, rfl⟩ := ha.pos (by omega)
    have hat := flatRow_take l k hkl
    have hsucc := List.take_succ_eq_append_getElem hkl
    have hmem : l[k] ∈ l := List.getElem_mem hkl
    have hx := hs l[k] hmem
    generalize l[k] = x at hat hsucc hmem hx
    repeat (first | refine SemW.run tblOk ?_ | refine jA (by omega) ?_ | refine jB (by omega) ?_ | refine jC (by omega) ?_ | refine jD (by omega) ?_ | refine jE rfl ?_ | refine jF (by omega) ?_ | (refine jG ?_; first | with_reducible (first | refine jH ?_ | refine jI ?_ | refine jJ ?_ | refine jK ?_ | refine jL ?_) | refine jM (by omega) ?_ | refine jN (by omega) ?_ | with_reducible refine jM rfl ?_ | refine jM (by assumption) ?_ | refine jN (by assumption) ?_ | refine jM (by decide) ?_ | refine jN (by decide) ?_) | refine jF (ptr_ok tblOk rfl rfl) ?_ | refine jO (fun _ => by kernel_rfl) ?_ | refine jF (by decide) ?_)
    refine Arr.ldn hS ha.arr rfl (k := k * 5) hat rfl ?_
    repeat (first | refine SemW.run tblOk ?_ | refine jA (by omega) ?_ | refine jB (by omega) ?_ | refine jC (by omega) ?_ | refine jD (by omega) ?_ | refine jE rfl ?_ | refine jF (by omega) ?_ | (refine jG ?_; first | with_reducible (first | refine jH ?_ | refine jI ?_ | refine jJ ?_ | refine jK ?_ | refine jL ?_) | refine jM (by omega) ?_ | refine jN (by omega) ?_ | with_reducible refine jM rfl ?_ | refine jM (by assumption) ?_ | refine jN (by assumption) ?_ | refine jM (by decide) ?_ | refine jN (by decide) ?_) | refine jF (ptr_ok tblOk rfl rfl) ?_ | refine jO (fun _ => by kernel_rfl) ?_ | refine jF (by decide) ?_)
    refine (small1_spec x hx).mono ?_
    rintro _ w2 ⟨rfl, hS'⟩
    have hS := hS.call0 hS'
    by_cases hx : 40 < x.seats.length
    · rw [decide_eq_true hx]
      repeat (first | refine SemW.run tblOk ?_ | refine jA (by omega) ?_ | refine jB (by omega) ?_ | refine jC (by omega) ?_ | refine jD (by omega) ?_ | refine jE rfl ?_ | refine jF (by omega) ?_ | (refine jG ?_; first | with_reducible (first | refine jH ?_ | refine jI ?_ | refine jJ ?_ | refine jK ?_ | refine jL ?_) | refine jM (by omega) ?_ | refine jN (by omega) ?_ | with_reducible refine jM rfl ?_ | refine jM (by assumption) ?_ | refine jN (by assumption) ?_ | refine jM (by decide) ?_ | refine jN (by decide) ?_) | refine jF (ptr_ok tblOk rfl rfl) ?_ | refine jO (fun _ => by kernel_rfl) ?_ | refine jF (by decide) ?_)
      refine ⟨⟨_, rfl, ?_⟩, hS⟩
      have : longRow l = true := by
        unfold longRow
        rw [List.any_eq_true]
        exact ⟨x, hmem, decide_eq_true hx⟩
      rw [this]; simp
    · rw [decide_eq_false hx]
      repeat (first | refine SemW.run tblOk ?_ | refine jA (by omega) ?_ | refine jB (by omega) ?_ | refine jC (by omega) ?_ | refine jD (by omega) ?_ | refine jE rfl ?_ | refine jF (by omega) ?_ | (refine jG ?_; first | with_reducible (first | refine jH ?_ | refine jI ?_ | refine jJ ?_ | refine jK ?_ | refine jL ?_) | refine jM (by omega) ?_ | refine jN (by omega) ?_ | with_reducible refine jM rfl ?_ | refine jM (by assumption) ?_ | refine jN (by assumption) ?_ | refine jM (by decide) ?_ | refine jN (by decide) ?_) | refine jF (ptr_ok tblOk rfl rfl) ?_ | refine jO (fun _ => by kernel_rfl) ?_ | refine jF (by decide) ?_)
      refine ⟨k + 1, ⟨rfl, rfl, rfl, rfl, trivial⟩, ⟨⟨by omega, ?_⟩, hS⟩, by omega⟩
      rw [hsucc]
      unfold longRow at hno ⊢
      rw [List.any_append, hno]
      simp only [List.any_cons, List.any_nil, Bool.or_false, Bool.false_or]
      exact decide_eq_false hx
  · have hke : k = l.length := by omega
    rw [hke, List.take_length] at hno
    repeat (first | refine SemW.run tblOk ?_ | refine jA (by omega) ?_ | refine jB (by omega) ?_ | refine jC (by omega) ?_ | refine jD (by omega) ?_ | refine jE rfl ?_ | refine jF (by omega) ?_ | (refine jG ?_; first | with_reducible (first | refine jH ?_ | refine jI ?_ | refine jJ ?_ | refine jK ?_ | refine jL ?_) | refine jM (by omega) ?_ | refine jN (by omega) ?_ | with_reducible refine jM rfl ?_ | refine jM (by assumption) ?_ | refine jN (by assumption) ?_ | refine jM (by decide) ?_ | refine jN (by decide) ?_) | refine jF (ptr_ok tblOk rfl rfl) ?_ | refine jO (fun _ => by kernel_rfl) ?_ | refine jF (by decide) ?_)
    refine ⟨⟨_, rfl, ?_⟩, hS⟩
    rw [hno]; simp
theorem containsRow_spec {w : World} {a : Option Addr} {cap : Nat} {l : List RowM} (ha : RowsAt w a cap l) (hlen : l.length ≤ 16777216) (hs : ∀ r ∈ l, r.seats.length ≤ 70368744177664) :
    Cl Tryd.prog f_slices_ContainsFunc_api_Row_api_Row [.slice a l.length cap, smallF] w fun v w' => v = .bool (longRow l) ∧ St w [] [] w' := by
  refine en_slices_ContainsFunc_api_Row_api_Row rfl ?_
  repeat (first | refine SemW.run tblOk ?_ | refine jA (by omega) ?_ | refine jB (by omega) ?_ | refine jC (by omega) ?_ | refine jD (by omega) ?_ | refine jE rfl ?_ | refine jF (by omega) ?_ | (refine jG ?_; first | with_reducible (first | refine jH ?_ | refine jI ?_ | refine jJ ?_ | refine jK ?_ | refine jL ?_) | refine jM (by omega) ?_ | refine jN (by omega) ?_ | with_reducible refine jM rfl ?_ | refine jM (by assumption) ?_ | refine jN (by assumption) ?_ | refine jM (by decide) ?_ | refine jN (by decide) ?_) | refine jF (ptr_ok tblOk rfl rfl) ?_ | refine jO (fun _ => by kernel_rfl) ?_ | refine jF (by decide) ?_)
  refine (indexRow_spec ha hlen hs).mono ?_
  rintro _ w1 ⟨⟨n, rfl, hn⟩, hS⟩
  repeat (first | refine SemW.run tblOk ?_ | refine jA (by omega) ?_ | refine jB (by omega) ?_ | refine jC (by omega) ?_ | refine jD (by omega) ?_ | refine jE rfl ?_ | refine jF (by omega) ?_ | (refine jG ?_; first | with_reducible (first | refine jH ?_ | refine jI ?_ | refine jJ ?_ | refine jK ?_ | refine jL ?_) | refine jM (by omega) ?_ | refine jN (by omega) ?_ | with_reducible refine jM rfl ?_ | refine jM (by assumption) ?_ | refine jN (by assumption) ?_ | refine jM (by decide) ?_ | refine jN (by decide) ?_) | refine jF (ptr_ok tblOk rfl rfl) ?_ | refine jO (fun _ => by kernel_rfl) ?_ | refine jF (by decide) ?_)
  refine ⟨?_, hS⟩
  rw [Value.bool.injEq, Bool.eq_iff_iff, decide_eq_true_iff]
  exact hn
set_option maxHeartbeats 2000000 in
theorem cloneRow_spec {w : World} {a : Option Addr} {cap : Nat} {l : List RowM} (ha : RowsAt w a cap l) (hlen : l.length ≤ 16777216) :
    Cl Tryd.prog f_slices_Clone_api_Row_api_Row [.slice a l.length cap] w fun v w' => ∃ a' c' L, v = .slice a' l.length c' ∧ Vec T_api_Row 5 a' l.length c' (l.flatMap rowC) L ∧ St w [] L w' := by
  have hS := St.start w
  refine en_slices_Clone_api_Row_api_Row rfl ?_
  rcases a with _ | p
  · have hl : l = [] := by
      cases l with
      | nil => rfl
      | cons x l => obtain ⟨g, off, h⟩ := ha.pos (by simp); cases h
    subst hl
    repeat (first | refine SemW.run tblOk ?_ | refine jA (by omega) ?_ | refine jB (by omega) ?_ | refine jC (by omega) ?_ | refine jD (by omega) ?_ | refine jE rfl ?_ | refine jF (by omega) ?_ | (refine jG ?_; first | with_reducible (first | refine jH ?_ | refine jI ?_ | refine jJ ?_ | refine jK ?_ | refine jL ?_) | refine jM (by omega) ?_ | refine jN (by omega) ?_ | with_reducible refine jM rfl ?_ | refine jM (by assumption) ?_ | refine jN (by assumption) ?_ | refine jM (by decide) ?_ | refine jN (by decide) ?_) | refine jF (ptr_ok tblOk rfl rfl) ?_ | refine jO (fun _ => by kernel_rfl) ?_ | refine jF (by decide) ?_)
    refine eqlSlNil tblOk rfl rfl ?_
    repeat (first | refine SemW.run tblOk ?_ | refine jA (by omega) ?_ | refine jB (by omega) ?_ | refine jC (by omega) ?_ | refine jD (by omega) ?_ | refine jE rfl ?_ | refine jF (by omega) ?_ | (refine jG ?_; first | with_reducible (first | refine jH ?_ | refine jI ?_ | refine jJ ?_ | refine jK ?_ | refine jL ?_) | refine jM (by omega) ?_ | refine jN (by omega) ?_ | with_reducible refine jM rfl ?_ | refine jM (by assumption) ?_ | refine jN (by assumption) ?_ | refine jM (by decide) ?_ | refine jN (by decide) ?_) | refine jF (ptr_ok tblOk rfl rfl) ?_ | refine jO (fun _ => by kernel_rfl) ?_ | refine jF (by decide) ?_)
    exact ⟨_, _, [], rfl, Vec.nil, hS⟩
  · repeat (first | refine SemW.run tblOk ?_ | refine jA (by omega) ?_ | refine jB (by omega) ?_ | refine jC (by omega) ?_ | refine jD (by omega) ?_ | refine jE rfl ?_ | refine jF (by omega) ?_ | (refine jG ?_; first | with_reducible (first | refine jH ?_ | refine jI ?_ | refine jJ ?_ | refine jK ?_ | refine jL ?_) | refine jM (by omega) ?_ | refine jN (by omega) ?_ | with_reducible refine jM rfl ?_ | refine jM (by assumption) ?_ | refine jN (by assumption) ?_ | refine jM (by decide) ?_ | refine jN (by decide) ?_) | refine jF (ptr_ok tblOk rfl rfl) ?_ | refine jO (fun _ => by kernel_rfl) ?_ | refine jF (by decide) ?_)
    refine eqlSlNil tblOk rfl rfl ?_
    repeat (first | refine SemW.run tblOk ?_ | refine jA (by omega) ?_ | refine jB (by omega) ?_ | refine jC (by omega) ?_ | refine jD (by omega) ?_ | refine jE rfl ?_ | refine jF (by omega) ?_ | (refine jG ?_; first | with_reducible (first | refine jH ?_ | refine jI ?_ | refine jJ ?_ | refine jK ?_ | refine jL ?_) | refine jM (by omega) ?_ | refine jN (by omega) ?_ | with_reducible refine jM rfl ?_ | refine jM (by assumption) ?_ | refine jN (by assumption) ?_ | refine jM (by decide) ?_ | refine jN (by decide) ?_) | refine jF (ptr_ok tblOk rfl rfl) ?_ | refine jO (fun _ => by kernel_rfl) ?_ | refine jF (by decide) ?_)
    refine hS.al ?_
    intro r w1 _ hS
    have hv : Vec T_api_Row 5 (some ⟨r, 0, none⟩) 0 0 [] [(r, .cells ⟨[]⟩ T_api_Row (0, 0))] := Vec.row r 0 0 [] [] rfl rfl (Nat.le_refl _)
    repeat (first | refine SemW.run tblOk ?_ | refine jA (by omega) ?_ | refine jB (by omega) ?_ | refine jC (by omega) ?_ | refine jD (by omega) ?_ | refine jE rfl ?_ | refine jF (by omega) ?_ | (refine jG ?_; first | with_reducible (first | refine jH ?_ | refine jI ?_ | refine jJ ?_ | refine jK ?_ | refine jL ?_) | refine jM (by omega) ?_ | refine jN (by omega) ?_ | with_reducible refine jM rfl ?_ | refine jM (by assumption) ?_ | refine jN (by assumption) ?_ | refine jM (by decide) ?_ | refine jN (by decide) ?_) | refine jF (ptr_ok tblOk rfl rfl) ?_ | refine jO (fun _ => by kernel_rfl) ?_ | refine jF (by decide) ?_)
    refine St.app (sz := 5) (m := l.length) tblOk rfl rfl rfl rfl hS hv (news := l.flatMap rowC) (flatRow_len l) (hS.arrOld ha.arr) (rowsC_one l) (by show (_ + _) * 48 ≤ _; omega) (by omega) ?_
    intro a1 c1 L1 w2 hv hS
    rw [List.nil_append, Nat.zero_add] at hv
    rw [Nat.zero_add]
    repeat (first | refine SemW.run tblOk ?_ | refine jA (by omega) ?_ | refine jB (by omega) ?_ | refine jC (by omega) ?_ | refine jD (by omega) ?_ | refine jE rfl ?_ | refine jF (by omega) ?_ | (refine jG ?_; first | with_reducible (first | refine jH ?_ | refine jI ?_ | refine jJ ?_ | refine jK ?_ | refine jL ?_) | refine jM (by omega) ?_ | refine jN (by omega) ?_ | with_reducible refine jM rfl ?_ | refine jM (by assumption) ?_ | refine jN (by assumption) ?_ | refine jM (by decide) ?_ | refine jN (by decide) ?_) | refine jF (ptr_ok tblOk rfl rfl) ?_ | refine jO (fun _ => by kernel_rfl) ?_ | refine jF (by decide) ?_)
    exact ⟨a1, c1, L1, rfl, hv, hS⟩
end Go.Proofs.YthpmmfapolcaiaaDoor

/- tarmacref22.ReadRows. -/
namespace Go.Proofs.YthpmmfapolcaiaaDoor
open Go Go.Eng Go.Proofs
structure RWI where
  i : Nat
  s : RB
  l : List RowM
  a : Option Addr
  c : Nat
def bitW (b : Bool) : Nat := if b then 1 else 0
theorem bitW_le (b : Bool) : bitW b ≤ 1 := by cases b <;> decide
theorem lRows_go (n : Nat) (s : RB) (l : List RowM) (h : s.bad = false) : lRows (n + 1) (s, l) = lRows n ((lRow s).2, l ++ [(lRow s).1]) := by
  rw [lRows, if_neg (by rw [h]; decide)]
theorem lRows_halt (n : Nat) (s : RB) (l : List RowM) (h : s.bad = true) : lRows n (s, l) = (s, l) := by
  cases n with
  | zero => rfl
  | succ n => rw [lRows, if_pos h]
theorem wText_t (s : RB) : (wText s).2.t.length ≤ s.t.length := wText_tlen s
theorem lRow_dec {s : RB} (h : s.bad = false) : (lRow s).2.t.length + 1 ≤ s.t.length + bitW (lRow s).2.bad := by
  have h1 := intO_len s.t
  have h2 := rbInt_t (rbInt s).2
  have h3 := rbInt_t (rbInt (rbInt s).2).2
  have h4 := rbNum_t (rbInt (rbInt (rbInt s).2).2).2
  have h5 := wText_t (rbNum (rbInt (rbInt (rbInt s).2).2).2).2
  have e0 : (lRow s).2 = (wText (rbNum (rbInt (rbInt (rbInt s).2).2).2).2).2 := rfl
  have e1 : (rbInt s).2.t = (intO s.t).2.2 := rfl
  have hle : (lRow s).2.t.length ≤ (intO s.t).2.2.length := by rw [e0, ← e1]; omega
  by_cases hb : (intO s.t).2.1 = 0
  · have h6 := intO_len' hb
    have := bitW (lRow s).2.bad
    omega
  · have hbad : (lRow s).2.bad = true := by
      rw [e0]
      unfold wText rbNum rbInt
      simp [hb]
    rw [hbad]
    show _ + 1 ≤ _ + 1
    omega
theorem eN_five (e1 e2 e3 e4 e5 : Int) (h1 : e1 = 0 ∨ e1 = 1) (h2 : e2 = 0 ∨ e2 = 1) (h3 : e3 = 0 ∨ e3 = 1) (h4 : e4 = 0 ∨ e4 = 1) (h5 : e5 = 0 ∨ e5 = 1) :
    mxI (mxI (mxI (mxI e1 e2) e3) e4) e5 = eN (((((false || decide (e1 ≠ 0)) || decide (e2 ≠ 0)) || decide (e3 ≠ 0)) || decide (e4 ≠ 0)) || decide (e5 ≠ 0)) := by
  unfold mxI eN
  rcases h1 with rfl | rfl <;> rcases h2 with rfl | rfl <;> rcases h3 with rfl | rfl <;> rcases h4 with rfl | rfl <;> rcases h5 with rfl | rfl <;> decide
/-- What reading rows answers. -/
def RowsPost (y : RB × List RowM) (rb : Nat) (v : Value) (w w' : World) : Prop :=
  ∃ a cap L, v = .tuple ⟨[.slice a y.2.length cap, .int .i64 (eN y.1.bad)]⟩ ∧ Vec T_api_Row 5 a y.2.length cap (y.2.flatMap rowC) L ∧ St w [rb] ((rb, rdC' y.1.t) :: L) w'
set_option maxRecDepth 4000 in
set_option maxHeartbeats 8000000 in
theorem ReadRows22_spec {w : World} {rb : Nat} {t : Bytes} (hh : Holds [(rb, rdC' t)] w) (ht : t.length ≤ 1000000000) :
    Cl Tryd.prog f_tarmacref22_ReadRows [ptr rb] w fun v w' => RowsPost (lRowsT t) rb v w w' := by
  have hS : St w [rb] [(rb, rdC' t)] w := St.enter hh
  have hb0 : eN false = 0 := rfl
  unfold lRowsT
  refine en_tarmacref22_ReadRows rfl ?_
  repeat (first | refine SemW.run tblOk ?_ | refine jA (by omega) ?_ | refine jB (by omega) ?_ | refine jC (by omega) ?_ | refine jD (by omega) ?_ | refine jE rfl ?_ | refine jF (by omega) ?_ | (refine jG ?_; first | with_reducible (first | refine jH ?_ | refine jI ?_ | refine jJ ?_ | refine jK ?_ | refine jL ?_) | refine jM (by omega) ?_ | refine jN (by omega) ?_ | with_reducible refine jM rfl ?_ | refine jM (by assumption) ?_ | refine jN (by assumption) ?_ | refine jM (by decide) ?_ | refine jN (by decide) ?_) | refine jF (ptr_ok tblOk rfl rfl) ?_ | refine jO (fun _ => by kernel_rfl) ?_ | refine jF (by decide) ?_ | refine hS.ld rfl ?_ | refine hS.ldn rfl ?_ | (refine hS.st rfl rfl ?_; intro _ hS))
  refine Cl.mono (RNumE_spec (t := t) (hS.part (L := [(rb, rdC' t)])) (by omega)) ?_
  rintro _ w1 ⟨rfl, hS'⟩
  have hS := hS.call (L := [(rb, rdC' t)]) hS'
  have he := numO_e t
  have hlt := numO_lt t
  have hln := numO_len t
  unfold rbNum
  generalize numO t = y at hS he hlt hln ⊢
  obtain ⟨n, e, t1⟩ := y
  simp only at hS he hlt hln ⊢
  have hee : e = eN (false || decide (e ≠ 0)) := by rcases he with rfl | rfl <;> rfl
  generalize (false || decide (e ≠ 0)) = b0 at hee ⊢
  subst hee
  clear he
  repeat (first | refine SemW.run tblOk ?_ | refine jA (by omega) ?_ | refine jB (by omega) ?_ | refine jC (by omega) ?_ | refine jD (by omega) ?_ | refine jE rfl ?_ | refine jF (by omega) ?_ | (refine jG ?_; first | with_reducible (first | refine jH ?_ | refine jI ?_ | refine jJ ?_ | refine jK ?_ | refine jL ?_) | refine jM (by omega) ?_ | refine jN (by omega) ?_ | with_reducible refine jM rfl ?_ | refine jM (by assumption) ?_ | refine jN (by assumption) ?_ | refine jM (by decide) ?_ | refine jN (by decide) ?_) | refine jF (ptr_ok tblOk rfl rfl) ?_ | refine jO (fun _ => by kernel_rfl) ?_ | refine jF (by decide) ?_ | refine hS.ld rfl ?_ | refine hS.ldn rfl ?_ | (refine hS.st rfl rfl ?_; intro _ hS))
  refine SemW.loop (fun z : RWI => [(0, ptr rb), (4, .int .u64 n), (5, .int .i64 (eN z.s.bad)), (6, .slice z.a z.l.length z.c), (7, .int .u64 z.i)])
    (fun z w' => (z.i ≤ n ∧ lRows (n - z.i) (z.s, z.l) = lRows n (⟨t1, b0⟩, []) ∧ z.s.t.length ≤ t.length ∧ z.l.length + z.s.t.length ≤ t.length + bitW z.s.bad) ∧ ∃ L, Vec T_api_Row 5 z.a z.l.length z.c (z.l.flatMap rowC) L ∧ St w [rb] ((rb, rdC' z.s.t) :: L) w') (fun z => n - z.i) ⟨0, ⟨t1, b0⟩, [], none, 0⟩
    ⟨rfl, rfl, rfl, rfl, rfl, trivial⟩ ⟨⟨Nat.zero_le _, rfl, hln, by simp only [List.length_nil]; omega⟩, [], Vec.nil, hS⟩ ?_
  clear hS hS'
  generalize hX : lRows n (⟨t1, b0⟩, []) = X
  rintro ⟨i, ⟨t2, bd⟩, l, a, c⟩ w5 ⟨⟨hi, hx, htl, hsz⟩, L, hv, hS⟩
  simp only at hi hx htl hsz hv hS ⊢
  have hgo : i < n ∧ bd = false ∨ (⟨t2, bd⟩, l) = X ∧ (i = n ∨ bd = true) := by
    by_cases hin : i < n
    · cases bd with
      | true => rw [lRows_halt _ _ _ rfl] at hx; exact .inr ⟨hx, .inr rfl⟩
      | false => exact .inl ⟨hin, rfl⟩
    · rw [show n - i = 0 by omega] at hx; exact .inr ⟨hx, .inl (by omega)⟩
  rcases hgo with ⟨hin, rfl⟩ | ⟨hX2, hend⟩
  · have hb1 : bitW false = 0 := rfl
    rw [show n - i = (n - (i + 1)) + 1 by omega, lRows_go _ _ _ rfl] at hx
    have hd := lRow_dec (s := ⟨t2, false⟩) rfl
    have hM : lRow ⟨t2, false⟩ = (⟨(intO t2).1, (intO (intO t2).2.2).1, (intO (intO (intO t2).2.2).2.2).1, decide ((numO (intO (intO (intO t2).2.2).2.2).2.2).1 = 1), (textO (numO (intO (intO (intO t2).2.2).2.2).2.2).2.2).1⟩,
      ⟨(textO (numO (intO (intO (intO t2).2.2).2.2).2.2).2.2).2.2, ((((false || decide ((intO t2).2.1 ≠ 0)) || decide ((intO (intO t2).2.2).2.1 ≠ 0)) || decide ((intO (intO (intO t2).2.2).2.2).2.1 ≠ 0)) || decide ((numO (intO (intO (intO t2).2.2).2.2).2.2).2.1 ≠ 0)) || decide ((textO (numO (intO (intO (intO t2).2.2).2.2).2.2).2.2).2.1 ≠ 0)⟩) := rfl
    repeat (first | refine SemW.run tblOk ?_ | refine jA (by omega) ?_ | refine jB (by omega) ?_ | refine jC (by omega) ?_ | refine jD (by omega) ?_ | refine jE rfl ?_ | refine jF (by omega) ?_ | (refine jG ?_; first | with_reducible (first | refine jH ?_ | refine jI ?_ | refine jJ ?_ | refine jK ?_ | refine jL ?_) | refine jM (by omega) ?_ | refine jN (by omega) ?_ | with_reducible refine jM rfl ?_ | refine jM (by assumption) ?_ | refine jN (by assumption) ?_ | refine jM (by decide) ?_ | refine jN (by decide) ?_) | refine jF (ptr_ok tblOk rfl rfl) ?_ | refine jO (fun _ => by kernel_rfl) ?_ | refine jF (by decide) ?_ | refine hS.ld rfl ?_ | refine hS.ldn rfl ?_ | (refine hS.st rfl rfl ?_; intro _ hS))
    refine Cl.mono (RIntE_spec (t := t2) (hS.part (L := [(rb, rdC' t2)])) (by omega)) ?_
    rintro _ w6 ⟨rfl, hS'⟩
    have hS := hS.call (L := [(rb, rdC' t2)]) hS'
    have he1 := intO_e t2
    have hl1 := intO_len t2
    generalize intO t2 = y at hS he1 hl1 hM ⊢
    obtain ⟨z1, e1, t3⟩ := y
    simp only at hS he1 hl1 hM ⊢
    repeat (first | refine SemW.run tblOk ?_ | refine jA (by omega) ?_ | refine jB (by omega) ?_ | refine jC (by omega) ?_ | refine jD (by omega) ?_ | refine jE rfl ?_ | refine jF (by omega) ?_ | (refine jG ?_; first | with_reducible (first | refine jH ?_ | refine jI ?_ | refine jJ ?_ | refine jK ?_ | refine jL ?_) | refine jM (by omega) ?_ | refine jN (by omega) ?_ | with_reducible refine jM rfl ?_ | refine jM (by assumption) ?_ | refine jN (by assumption) ?_ | refine jM (by decide) ?_ | refine jN (by decide) ?_) | refine jF (ptr_ok tblOk rfl rfl) ?_ | refine jO (fun _ => by kernel_rfl) ?_ | refine jF (by decide) ?_ | refine hS.ld rfl ?_ | refine hS.ldn rfl ?_ | (refine hS.st rfl rfl ?_; intro _ hS))
    refine Cl.mono (RIntE_spec (t := t3) (hS.part (L := [(rb, rdC' t3)])) (by omega)) ?_
    rintro _ w7 ⟨rfl, hS'⟩
    have hS := hS.call (L := [(rb, rdC' t3)]) hS'
    have he2 := intO_e t3
    have hl2 := intO_len t3
    generalize intO t3 = y at hS he2 hl2 hM ⊢
    obtain ⟨z2, e2, t4⟩ := y
    simp only at hS he2 hl2 hM ⊢
    repeat (first | refine SemW.run tblOk ?_ | refine jA (by omega) ?_ | refine jB (by omega) ?_ | refine jC (by omega) ?_ | refine jD (by omega) ?_ | refine jE rfl ?_ | refine jF (by omega) ?_ | (refine jG ?_; first | with_reducible (first | refine jH ?_ | refine jI ?_ | refine jJ ?_ | refine jK ?_ | refine jL ?_) | refine jM (by omega) ?_ | refine jN (by omega) ?_ | with_reducible refine jM rfl ?_ | refine jM (by assumption) ?_ | refine jN (by assumption) ?_ | refine jM (by decide) ?_ | refine jN (by decide) ?_) | refine jF (ptr_ok tblOk rfl rfl) ?_ | refine jO (fun _ => by kernel_rfl) ?_ | refine jF (by decide) ?_ | refine hS.ld rfl ?_ | refine hS.ldn rfl ?_ | (refine hS.st rfl rfl ?_; intro _ hS))
    refine Cl.mono (RIntE_spec (t := t4) (hS.part (L := [(rb, rdC' t4)])) (by omega)) ?_
    rintro _ w8 ⟨rfl, hS'⟩
    have hS := hS.call (L := [(rb, rdC' t4)]) hS'
    have he3 := intO_e t4
    have hl3 := intO_len t4
    generalize intO t4 = y at hS he3 hl3 hM ⊢
    obtain ⟨z3, e3, t5⟩ := y
    simp only at hS he3 hl3 hM ⊢
    repeat (first | refine SemW.run tblOk ?_ | refine jA (by omega) ?_ | refine jB (by omega) ?_ | refine jC (by omega) ?_ | refine jD (by omega) ?_ | refine jE rfl ?_ | refine jF (by omega) ?_ | (refine jG ?_; first | with_reducible (first | refine jH ?_ | refine jI ?_ | refine jJ ?_ | refine jK ?_ | refine jL ?_) | refine jM (by omega) ?_ | refine jN (by omega) ?_ | with_reducible refine jM rfl ?_ | refine jM (by assumption) ?_ | refine jN (by assumption) ?_ | refine jM (by decide) ?_ | refine jN (by decide) ?_) | refine jF (ptr_ok tblOk rfl rfl) ?_ | refine jO (fun _ => by kernel_rfl) ?_ | refine jF (by decide) ?_ | refine hS.ld rfl ?_ | refine hS.ldn rfl ?_ | (refine hS.st rfl rfl ?_; intro _ hS))
    refine Cl.mono (RNumE_spec (t := t5) (hS.part (L := [(rb, rdC' t5)])) (by omega)) ?_
    rintro _ w9 ⟨rfl, hS'⟩
    have hS := hS.call (L := [(rb, rdC' t5)]) hS'
    have he4 := numO_e t5
    have hl4 := numO_len t5
    have hl4' := numO_lt t5
    generalize numO t5 = y at hS he4 hl4 hl4' hM ⊢
    obtain ⟨m, e4, t6⟩ := y
    simp only at hS he4 hl4 hl4' hM ⊢
    repeat (first | refine SemW.run tblOk ?_ | refine jA (by omega) ?_ | refine jB (by omega) ?_ | refine jC (by omega) ?_ | refine jD (by omega) ?_ | refine jE rfl ?_ | refine jF (by omega) ?_ | (refine jG ?_; first | with_reducible (first | refine jH ?_ | refine jI ?_ | refine jJ ?_ | refine jK ?_ | refine jL ?_) | refine jM (by omega) ?_ | refine jN (by omega) ?_ | with_reducible refine jM rfl ?_ | refine jM (by assumption) ?_ | refine jN (by assumption) ?_ | refine jM (by decide) ?_ | refine jN (by decide) ?_) | refine jF (ptr_ok tblOk rfl rfl) ?_ | refine jO (fun _ => by kernel_rfl) ?_ | refine jF (by decide) ?_ | refine hS.ld rfl ?_ | refine hS.ldn rfl ?_ | (refine hS.st rfl rfl ?_; intro _ hS))
    refine Cl.mono (RTextE_spec (t := t6) (hS.part (L := [(rb, rdC' t6)])) (by omega)) ?_
    rintro _ w10 ⟨rfl, hS'⟩
    have hS := hS.call (L := [(rb, rdC' t6)]) hS'
    have he5 := textO_err t6
    have hl5 := textO_len t6
    generalize textO t6 = y at hS he5 hl5 hM ⊢
    obtain ⟨x, e5, t7⟩ := y
    simp only at hS he5 hl5 hM ⊢
    repeat (first | refine SemW.run tblOk ?_ | refine jA (by omega) ?_ | refine jB (by omega) ?_ | refine jC (by omega) ?_ | refine jD (by omega) ?_ | refine jE rfl ?_ | refine jF (by omega) ?_ | (refine jG ?_; first | with_reducible (first | refine jH ?_ | refine jI ?_ | refine jJ ?_ | refine jK ?_ | refine jL ?_) | refine jM (by omega) ?_ | refine jN (by omega) ?_ | with_reducible refine jM rfl ?_ | refine jM (by assumption) ?_ | refine jN (by assumption) ?_ | refine jM (by decide) ?_ | refine jN (by decide) ?_) | refine jF (ptr_ok tblOk rfl rfl) ?_ | refine jO (fun _ => by kernel_rfl) ?_ | refine jF (by decide) ?_ | refine hS.ld rfl ?_ | refine hS.ldn rfl ?_ | (refine hS.st rfl rfl ?_; intro _ hS))
    refine hS.al ?_
    intro r w11 _ hS
    repeat (first | refine SemW.run tblOk ?_ | refine jA (by omega) ?_ | refine jB (by omega) ?_ | refine jC (by omega) ?_ | refine jD (by omega) ?_ | refine jE rfl ?_ | refine jF (by omega) ?_ | (refine jG ?_; first | with_reducible (first | refine jH ?_ | refine jI ?_ | refine jJ ?_ | refine jK ?_ | refine jL ?_) | refine jM (by omega) ?_ | refine jN (by omega) ?_ | with_reducible refine jM rfl ?_ | refine jM (by assumption) ?_ | refine jN (by assumption) ?_ | refine jM (by decide) ?_ | refine jN (by decide) ?_) | refine jF (ptr_ok tblOk rfl rfl) ?_ | refine jO (fun _ => by kernel_rfl) ?_ | refine jF (by decide) ?_ | refine hS.ld rfl ?_ | refine hS.ldn rfl ?_ | (refine hS.st rfl rfl ?_; intro _ hS))
    have hbe := eN_five e1 e2 e3 e4 e5 he1 he2 he3 he4 he5
    rw [hbe]
    rw [hM] at hd hx
    generalize (((((false || decide (e1 ≠ 0)) || decide (e2 ≠ 0)) || decide (e3 ≠ 0)) || decide (e4 ≠ 0)) || decide (e5 ≠ 0)) = b7 at hd hx ⊢
    have hmb : decide ((m : Int) = 1) = decide (m = 1) := by rw [decide_eq_decide]; omega
    rw [hmb] at hS
    have hS : St w [rb] ((r, .cells ⟨rowC ⟨z1, z2, z3, decide (m = 1), x⟩⟩ T_api_Row (0, 0)) :: (rb, rdC' t7) :: L) _ := hS
    generalize (⟨z1, z2, z3, decide (m = 1), x⟩ : RowM) = row at hS hd hx
    simp only at hd hx
    refine St.app (sz := 5) (m := 1) tblOk rfl rfl rfl rfl hS hv (news := rowC row) rfl (by have := hS.arr (b := r) (T' := []) (by simp); exact this) rfl (by show (_ + _) * 48 ≤ _; omega) (by omega) ?_
    intro a2 c2 L2 w12 hv hS
    have e9 : l.flatMap rowC ++ rowC row = (l ++ [row]).flatMap rowC := by simp
    have e8 : l.length + 1 = (l ++ [row]).length := by simp
    rw [e9, e8] at hv
    rw [e8]
    repeat (first | refine SemW.run tblOk ?_ | refine jA (by omega) ?_ | refine jB (by omega) ?_ | refine jC (by omega) ?_ | refine jD (by omega) ?_ | refine jE rfl ?_ | refine jF (by omega) ?_ | (refine jG ?_; first | with_reducible (first | refine jH ?_ | refine jI ?_ | refine jJ ?_ | refine jK ?_ | refine jL ?_) | refine jM (by omega) ?_ | refine jN (by omega) ?_ | with_reducible refine jM rfl ?_ | refine jM (by assumption) ?_ | refine jN (by assumption) ?_ | refine jM (by decide) ?_ | refine jN (by decide) ?_) | refine jF (ptr_ok tblOk rfl rfl) ?_ | refine jO (fun _ => by kernel_rfl) ?_ | refine jF (by decide) ?_ | refine hS.ld rfl ?_ | refine hS.ldn rfl ?_ | (refine hS.st rfl rfl ?_; intro _ hS))
    refine ⟨⟨i + 1, ⟨t7, b7⟩, l ++ [row], a2, c2⟩, ⟨rfl, rfl, rfl, rfl, rfl, trivial⟩, ⟨⟨by simp only; omega, hx, by simp only; omega, by simp only [List.length_append, List.length_singleton]; omega⟩, L2, hv, hS.sub (List.sublist_cons_self _ _)⟩, by simp only; omega⟩
  · rcases hend with rfl | rfl
    · repeat (first | refine SemW.run tblOk ?_ | refine jA (by omega) ?_ | refine jB (by omega) ?_ | refine jC (by omega) ?_ | refine jD (by omega) ?_ | refine jE rfl ?_ | refine jF (by omega) ?_ | (refine jG ?_; first | with_reducible (first | refine jH ?_ | refine jI ?_ | refine jJ ?_ | refine jK ?_ | refine jL ?_) | refine jM (by omega) ?_ | refine jN (by omega) ?_ | with_reducible refine jM rfl ?_ | refine jM (by assumption) ?_ | refine jN (by assumption) ?_ | refine jM (by decide) ?_ | refine jN (by decide) ?_) | refine jF (ptr_ok tblOk rfl rfl) ?_ | refine jO (fun _ => by kernel_rfl) ?_ | refine jF (by decide) ?_ | refine hS.ld rfl ?_ | refine hS.ldn rfl ?_ | (refine hS.st rfl rfl ?_; intro _ hS))
      exact ⟨a, c, L, by rw [← hX2], by rw [← hX2]; exact hv, by rw [← hX2]; exact hS⟩
    · by_cases hin : i < n
      · repeat (first | refine SemW.run tblOk ?_ | refine jA (by omega) ?_ | refine jB (by omega) ?_ | refine jC (by omega) ?_ | refine jD (by omega) ?_ | refine jE rfl ?_ | refine jF (by omega) ?_ | (refine jG ?_; first | with_reducible (first | refine jH ?_ | refine jI ?_ | refine jJ ?_ | refine jK ?_ | refine jL ?_) | refine jM (by omega) ?_ | refine jN (by omega) ?_ | with_reducible refine jM rfl ?_ | refine jM (by assumption) ?_ | refine jN (by assumption) ?_ | refine jM (by decide) ?_ | refine jN (by decide) ?_) | refine jF (ptr_ok tblOk rfl rfl) ?_ | refine jO (fun _ => by kernel_rfl) ?_ | refine jF (by decide) ?_ | refine hS.ld rfl ?_ | refine hS.ldn rfl ?_ | (refine hS.st rfl rfl ?_; intro _ hS))
        exact ⟨a, c, L, by rw [← hX2], by rw [← hX2]; exact hv, by rw [← hX2]; exact hS⟩
      · repeat (first | refine SemW.run tblOk ?_ | refine jA (by omega) ?_ | refine jB (by omega) ?_ | refine jC (by omega) ?_ | refine jD (by omega) ?_ | refine jE rfl ?_ | refine jF (by omega) ?_ | (refine jG ?_; first | with_reducible (first | refine jH ?_ | refine jI ?_ | refine jJ ?_ | refine jK ?_ | refine jL ?_) | refine jM (by omega) ?_ | refine jN (by omega) ?_ | with_reducible refine jM rfl ?_ | refine jM (by assumption) ?_ | refine jN (by assumption) ?_ | refine jM (by decide) ?_ | refine jN (by decide) ?_) | refine jF (ptr_ok tblOk rfl rfl) ?_ | refine jO (fun _ => by kernel_rfl) ?_ | refine jF (by decide) ?_ | refine hS.ld rfl ?_ | refine hS.ldn rfl ?_ | (refine hS.st rfl rfl ?_; intro _ hS))
        exact ⟨a, c, L, by rw [← hX2], by rw [← hX2]; exact hv, by rw [← hX2]; exact hS⟩
end Go.Proofs.YthpmmfapolcaiaaDoor

/- Package wire: a command's fields, read. -/
namespace Go.Proofs.YthpmmfapolcaiaaDoor
open Go Go.Eng Go.Proofs
theorem wInts_cut1 (s : RB) : ∃ z, wInts 1 s = ([z], (wInts 1 s).2) ∧ i64ok z := ⟨_, rfl, rbInt_ok' s⟩
theorem wInts_cut2 (s : RB) : ∃ y z, wInts 2 s = ([y, z], (wInts 2 s).2) ∧ i64ok y ∧ i64ok z := ⟨_, _, rfl, rbInt_ok' _, rbInt_ok' _⟩
theorem wInts_cut4 (s : RB) : ∃ x y z u, wInts 4 s = ([x, y, z, u], (wInts 4 s).2) := ⟨_, _, _, _, rfl⟩
theorem wMarks_cut4 (s : RB) : ∃ x y z u, wMarks 4 s = ([x, y, z, u], (wMarks 4 s).2) := ⟨_, _, _, _, rfl⟩
theorem setL_app (P : List Value) : ∀ (os : List Nat) (vs Q : List Value), setL (P ++ Q) (os.map fun o => P.length + o) vs = P ++ setL Q os vs
  | [], vs, Q => by cases vs <;> simp [setL]
  | o :: os, [], Q => by simp [setL]
  | o :: os, v :: vs, Q => by
    rw [List.map_cons]
    unfold setL
    rw [List.set_append_right _ _ (by omega), Nat.add_sub_cancel_left]
    exact setL_app P os vs _
/-- The memory of a command that is read: its cells, the reader's, its rows. -/
abbrev cmdH (cb rr rb : Nat) (c : CmdM) (a : Option Addr) (cap : Nat) (s : RB) (Lv : Heap) : Heap := (cb, .cells ⟨cmdC c a cap⟩ T_api_Command (0, 0)) :: (rr, wrdC rb s.bad) :: (rb, rdC s.t) :: Lv
theorem wInts_cut3 (s : RB) : ∃ x y z, wInts 3 s = ([x, y, z], (wInts 3 s).2) := ⟨_, _, _, rfl⟩
theorem wMarks_cut1 (s : RB) : ∃ x, wMarks 1 s = ([x], (wMarks 1 s).2) := ⟨_, rfl⟩
theorem wMarks_tlen (k : Nat) (s : RB) : (wMarks k s).2.t.length ≤ s.t.length := wNum_tlen _ s
theorem wNum_le (most : Nat) (s : RB) : (wNum most s).1 ≤ most := by
  unfold wNum
  split
  · exact Nat.zero_le _
  · next h => exact Nat.le_of_not_lt (not_or.1 h).2
structure CI where
  l : List RowM
  s : RB
  a : Option Addr
  cap : Nat
def zRow : RowM := ⟨0, 0, 0, false, []⟩
theorem wRows_next {n : Nat} {l : List RowM} {s s' : RB} {row : RowM} {X : List RowM × RB} (hr : wRow s = (row, s')) (hl : l.length < n) (hx : (l ++ (wRows (n - l.length) s).1, (wRows (n - l.length) s).2) = X) :
    ((l ++ [row]) ++ (wRows (n - (l ++ [row]).length) s').1, (wRows (n - (l ++ [row]).length) s').2) = X := by
  rw [show n - l.length = (n - (l ++ [row]).length) + 1 by simp; omega] at hx
  unfold wRows at hx
  rw [hr] at hx
  rw [← hx]
  simp
abbrev rowH (cb g rr rb : Nat) (q z0 : Int) (n c2 : Nat) (buf : List Value) (s : RB) : Heap := (cb, .cells ⟨[.int .i64 1, .int .i64 q, .int .i64 z0, .int .i64 0, .int .i64 0, .int .i64 0, .int .i64 0, .bool false, .bool false, .bool false, .bool false, .int .i64 0, .int .u8 0, .slice (some ⟨g, 0, none⟩) n c2, .int .i64 0, .int .i64 0, .int .i64 0, .int .i64 0, Str []]⟩ T_api_Command (0, 0)) :: tgH g buf T_api_Row rr rb s
theorem vec_row {l : List RowM} {row : RowM} {g c2 : Nat} {fill : List Value} (hfl : l.length * 5 + 5 + fill.length = c2 * 5) (hcap : l.length + 1 ≤ c2) : Vec T_api_Row 5 (some ⟨g, 0, none⟩) (l ++ [row]).length c2 ((l ++ [row]).flatMap rowC) [(g, .cells ⟨l.flatMap rowC ++ (rowC row ++ fill)⟩ T_api_Row (0, 0))] := by
  have e9 : l.flatMap rowC ++ (rowC row ++ fill) = (l ++ [row]).flatMap rowC ++ fill := by simp
  have hl := flatRow_len (l ++ [row])
  rw [e9]
  refine Vec.row g _ c2 _ fill hl ?_ (by simpa using hcap)
  rw [hl, List.length_append, List.length_singleton]; omega
set_option maxRecDepth 4000 in
set_option maxHeartbeats 8000000 in
theorem command_rd {w : World} {cb rr rb : Nat} {k q : Int} {s : RB} (hh : Holds (cmdH cb rr rb (hdC k q) none 0 s []) w) (ht : s.t.length ≤ 1048576) :
    Cl Tryd.prog f_wire_command [.iface T_Ptr_wire_reader (ptr rr), ptr cb] w fun _ w' => ∃ a cap Lv, Vec T_api_Row 5 a (wField (ckOf k) k q s).1.rows.length cap ((wField (ckOf k) k q s).1.rows.flatMap rowC) Lv ∧ St w [cb, rr, rb] (cmdH cb rr rb (wField (ckOf k) k q s).1 a cap (wField (ckOf k) k q s).2 Lv) w' := by
  have hS : St w [cb, rr, rb] (cmdH cb rr rb (hdC k q) none 0 s []) w := St.enter hh
  obtain ⟨T0, hT⟩ : ∃ T0, T0 = [cb, rr, rb] := ⟨_, rfl⟩
  rw [← hT] at hS ⊢
  refine en_wire_command rfl ?_
  repeat (first | refine SemW.run tblOk ?_ | refine jA (by omega) ?_ | refine jB (by omega) ?_ | refine jC (by omega) ?_ | refine jD (by omega) ?_ | refine jE rfl ?_ | refine jF (by omega) ?_ | (refine jG ?_; first | with_reducible (first | refine jH ?_ | refine jI ?_ | refine jJ ?_ | refine jK ?_ | refine jL ?_) | refine jM (by omega) ?_ | refine jN (by omega) ?_ | with_reducible refine jM rfl ?_ | refine jM (by assumption) ?_ | refine jN (by assumption) ?_ | refine jM (by decide) ?_ | refine jN (by decide) ?_) | refine jF (ptr_ok tblOk rfl rfl) ?_ | refine jO (fun _ => by kernel_rfl) ?_ | refine jF (by decide) ?_ | refine hS.ld rfl ?_ | refine hS.ldn rfl ?_ | (refine hS.st rfl rfl ?_; intro _ hS))
  unfold ckOf
  by_cases h1 : k = 1
  · subst h1
    rw [if_pos rfl]
    repeat (first | refine SemW.run tblOk ?_ | refine jA (by omega) ?_ | refine jB (by omega) ?_ | refine jC (by omega) ?_ | refine jD (by omega) ?_ | refine jE rfl ?_ | refine jF (by omega) ?_ | (refine jG ?_; first | with_reducible (first | refine jH ?_ | refine jI ?_ | refine jJ ?_ | refine jK ?_ | refine jL ?_) | refine jM (by omega) ?_ | refine jN (by omega) ?_ | with_reducible refine jM rfl ?_ | refine jM (by assumption) ?_ | refine jN (by assumption) ?_ | refine jM (by decide) ?_ | refine jN (by decide) ?_) | refine jF (ptr_ok tblOk rfl rfl) ?_ | refine jO (fun _ => by kernel_rfl) ?_ | refine jF (by decide) ?_)
    refine SemW.draw tblOk mixed (fun w' => St w T0 (cmdH cb rr rb (hdC 1 q) none 0 s []) w') [8] [0, 1, 2, 3, 5, 6, 7, 4, 8] (by kernel_rfl) hS.drew ?_
    have hS := hS.drew
    repeat (first | refine SemW.run tblOk ?_ | refine jA (by omega) ?_ | refine jB (by omega) ?_ | refine jC (by omega) ?_ | refine jD (by omega) ?_ | refine jE rfl ?_ | refine jF (by omega) ?_ | (refine jG ?_; first | with_reducible (first | refine jH ?_ | refine jI ?_ | refine jJ ?_ | refine jK ?_ | refine jL ?_) | refine jM (by omega) ?_ | refine jN (by omega) ?_ | with_reducible refine jM rfl ?_ | refine jM (by assumption) ?_ | refine jN (by assumption) ?_ | refine jM (by decide) ?_ | refine jN (by decide) ?_) | refine jF (ptr_ok tblOk rfl rfl) ?_ | refine jO (fun _ => by kernel_rfl) ?_ | refine jF (by decide) ?_ | refine hS.ldC rfl ?_ | refine hS.ldnC rfl ?_)
    refine hS.al ?_
    intro r w3 _ hS
    refine Chk.mk (hS.sub (List.sublist_cons_self _ _)) ?_
    repeat (first | refine SemW.run tblOk ?_ | refine jA (by omega) ?_ | refine jB (by omega) ?_ | refine jC (by omega) ?_ | refine jD (by omega) ?_ | refine jE rfl ?_ | refine jF (by omega) ?_ | (refine jG ?_; first | with_reducible (first | refine jH ?_ | refine jI ?_ | refine jJ ?_ | refine jK ?_ | refine jL ?_) | refine jM (by omega) ?_ | refine jN (by omega) ?_ | with_reducible refine jM rfl ?_ | refine jM (by assumption) ?_ | refine jN (by assumption) ?_ | refine jM (by decide) ?_ | refine jN (by decide) ?_) | refine jF (ptr_ok tblOk rfl rfl) ?_ | refine jO (fun _ => by kernel_rfl) ?_ | refine jF (by decide) ?_ | refine hS.ldC rfl ?_ | refine hS.ldnC rfl ?_)
    refine InvG.mk ⟨f_wire_reader_int, ptr rr, by kernel_rfl, ?_⟩
    refine Cl.mono (rint_spec (b := cb) (s := s) (hS.part (L := (cmdH cb rr rb (hdC 1 q) none 0 s []))) (by omega) (offs := [2]) (hS.arr (b := r) (show r ∉ [cb, rr, rb] from nodup_chunk (L := (cmdH cb rr rb (hdC 1 q) none 0 s [])) hS)) (by simp) (by simp)) ?_
    rintro _ w4 hS'
    have hS := (hS.call (L := (cmdH cb rr rb (hdC 1 q) none 0 s [])) hS').sub (List.sublist_cons_self _ _)
    repeat (first | refine SemW.run tblOk ?_ | refine jA (by omega) ?_ | refine jB (by omega) ?_ | refine jC (by omega) ?_ | refine jD (by omega) ?_ | refine jE rfl ?_ | refine jF (by omega) ?_ | (refine jG ?_; first | with_reducible (first | refine jH ?_ | refine jI ?_ | refine jJ ?_ | refine jK ?_ | refine jL ?_) | refine jM (by omega) ?_ | refine jN (by omega) ?_ | with_reducible refine jM rfl ?_ | refine jM (by assumption) ?_ | refine jN (by assumption) ?_ | refine jM (by decide) ?_ | refine jN (by decide) ?_) | refine jF (ptr_ok tblOk rfl rfl) ?_ | refine jO (fun _ => by kernel_rfl) ?_ | refine jF (by decide) ?_)
    obtain ⟨z0, hy, -⟩ := wInts_cut1 s
    have htl := wInts_tlen 1 s
    unfold wField tk
    simp only
    have hS : St w T0 (tgH cb (setL (cmdC (hdC 1 q) none 0) [2] ((wInts 1 s).1.map intV)) T_api_Command rr rb (wInts 1 s).2) _ := hS
    rw [hy] at hS ⊢
    simp only at hS ⊢
    generalize (wInts 1 s).2 = s1 at hS htl ⊢
    have hS : St w T0 (cmdH cb rr rb { hdC 1 q with id := z0 } none 0 s1 []) _ := hS
    refine SemW.draw tblOk mixed (fun w' => St w T0 (cmdH cb rr rb { hdC 1 q with id := z0 } none 0 s1 []) w') [9, 10] [0, 1, 2, 3, 4, 5, 6, 7, 8, 9, 10] (by kernel_rfl) hS.drew ?_
    have hS := hS.drew
    repeat (first | refine SemW.run tblOk ?_ | refine jA (by omega) ?_ | refine jB (by omega) ?_ | refine jC (by omega) ?_ | refine jD (by omega) ?_ | refine jE rfl ?_ | refine jF (by omega) ?_ | (refine jG ?_; first | with_reducible (first | refine jH ?_ | refine jI ?_ | refine jJ ?_ | refine jK ?_ | refine jL ?_) | refine jM (by omega) ?_ | refine jN (by omega) ?_ | with_reducible refine jM rfl ?_ | refine jM (by assumption) ?_ | refine jN (by assumption) ?_ | refine jM (by decide) ?_ | refine jN (by decide) ?_) | refine jF (ptr_ok tblOk rfl rfl) ?_ | refine jO (fun _ => by kernel_rfl) ?_ | refine jF (by decide) ?_ | refine hS.ldC rfl ?_ | refine hS.ldnC rfl ?_)
    refine InvG.mk ⟨f_wire_reader_count, ptr rr, by kernel_rfl, ?_⟩
    refine Cl.mono (rcount_spec (s := s1) (hS.part (L := rdH rr rb s1)) (by omega) _) ?_
    rintro _ w5 ⟨rfl, hS'⟩
    have hS := hS.call (L := rdH rr rb s1) hS'
    have hn := wNum_le s1.t.length s1
    have htl2 := wNum_tlen s1.t.length s1
    generalize wNum s1.t.length s1 = y at hS hn htl2 ⊢
    obtain ⟨n, s2⟩ := y
    simp only at hS hn htl2 ⊢
    have hS : St w T0 (cmdH cb rr rb { hdC 1 q with id := z0, rows := [] } none 0 s2 []) w5 := hS
    repeat (first | refine SemW.run tblOk ?_ | refine jA (by omega) ?_ | refine jB (by omega) ?_ | refine jC (by omega) ?_ | refine jD (by omega) ?_ | refine jE rfl ?_ | refine jF (by omega) ?_ | (refine jG ?_; first | with_reducible (first | refine jH ?_ | refine jI ?_ | refine jJ ?_ | refine jK ?_ | refine jL ?_) | refine jM (by omega) ?_ | refine jN (by omega) ?_ | with_reducible refine jM rfl ?_ | refine jM (by assumption) ?_ | refine jN (by assumption) ?_ | refine jM (by decide) ?_ | refine jN (by decide) ?_) | refine jF (ptr_ok tblOk rfl rfl) ?_ | refine jO (fun _ => by kernel_rfl) ?_ | refine jF (by decide) ?_)
    refine SemW.loop (fun z : CI => [(0, .iface T_Ptr_wire_reader (ptr rr)), (1, ptr cb), (42, .int .i64 n), (43, .int .i64 z.l.length)])
      (fun z w' => (z.l.length ≤ n ∧ (z.l ++ (wRows (n - z.l.length) z.s).1, (wRows (n - z.l.length) z.s).2) = wRows n s2 ∧ z.s.t.length ≤ s2.t.length) ∧ ∃ Lv, Vec T_api_Row 5 z.a z.l.length z.cap (z.l.flatMap rowC) Lv ∧ St w T0 (cmdH cb rr rb { hdC 1 q with id := z0, rows := z.l } z.a z.cap z.s Lv) w') (fun z => n - z.l.length) ⟨[], s2, none, 0⟩
      ⟨rfl, rfl, rfl, rfl, trivial⟩ ⟨⟨Nat.zero_le _, rfl, Nat.le_refl _⟩, [], Vec.nil, hS⟩ ?_
    clear hS hS'
    rintro ⟨l, s3, a, cap⟩ w6 ⟨⟨hln, hx, hst⟩, Lv, hv, hS⟩
    simp only at hln hx hst hv hS ⊢
    by_cases hlt : l.length < n
    · have hPl := flatRow_len l
      have hS : St w T0 ((cb, .cells ⟨[.int .i64 1, .int .i64 q, .int .i64 z0, .int .i64 0, .int .i64 0, .int .i64 0, .int .i64 0, .bool false, .bool false, .bool false, .bool false, .int .i64 0, .int .u8 0, .slice a l.length cap, .int .i64 0, .int .i64 0, .int .i64 0, .int .i64 0, Str []]⟩ T_api_Command (0, 0)) :: (rr, wrdC rb s3.bad) :: (rb, rdC s3.t) :: Lv) w6 := hS
      repeat (first | refine SemW.run tblOk ?_ | refine jA (by omega) ?_ | refine jB (by omega) ?_ | refine jC (by omega) ?_ | refine jD (by omega) ?_ | refine jE rfl ?_ | refine jF (by omega) ?_ | (refine jG ?_; first | with_reducible (first | refine jH ?_ | refine jI ?_ | refine jJ ?_ | refine jK ?_ | refine jL ?_) | refine jM (by omega) ?_ | refine jN (by omega) ?_ | with_reducible refine jM rfl ?_ | refine jM (by assumption) ?_ | refine jN (by assumption) ?_ | refine jM (by decide) ?_ | refine jN (by decide) ?_) | refine jF (ptr_ok tblOk rfl rfl) ?_ | refine jO (fun _ => by kernel_rfl) ?_ | refine jF (by decide) ?_ | refine hS.ld rfl ?_ | refine hS.ldn rfl ?_ | (refine hS.st rfl rfl ?_; intro _ hS))
      refine hS.al ?_
      intro r w7 _ hS
      repeat (first | refine SemW.run tblOk ?_ | refine jA (by omega) ?_ | refine jB (by omega) ?_ | refine jC (by omega) ?_ | refine jD (by omega) ?_ | refine jE rfl ?_ | refine jF (by omega) ?_ | (refine jG ?_; first | with_reducible (first | refine jH ?_ | refine jI ?_ | refine jJ ?_ | refine jK ?_ | refine jL ?_) | refine jM (by omega) ?_ | refine jN (by omega) ?_ | with_reducible refine jM rfl ?_ | refine jM (by assumption) ?_ | refine jN (by assumption) ?_ | refine jM (by decide) ?_ | refine jN (by decide) ?_) | refine jF (ptr_ok tblOk rfl rfl) ?_ | refine jO (fun _ => by kernel_rfl) ?_ | refine jF (by decide) ?_ | refine hS.ld rfl ?_ | refine hS.ldn rfl ?_ | (refine hS.st rfl rfl ?_; intro _ hS))
      refine St.app (sz := 5) (m := 1) tblOk rfl rfl rfl rfl hS hv (news := rowC zRow) rfl (by have := hS.arr (b := r) (T' := []) (by simp); exact this) rfl (by show (_ + _) * 48 ≤ _; omega) (by omega) ?_
      intro a2 c2 L2 w8 hv2 hS
      rcases hv2.inv with ⟨-, h0, -⟩ | ⟨g, fill, rfl, hx2, hl2, hcap, rfl⟩
      · omega
      have hbuf : l.flatMap rowC ++ rowC zRow ++ fill = l.flatMap rowC ++ ([.int .i64 0, .int .i64 0, .int .i64 0, .bool false, Str []] ++ fill) := by rw [List.append_assoc]; rfl
      rw [hbuf] at hS
      have hfl : l.length * 5 + 5 + fill.length = c2 * 5 := by
        rw [List.length_append, hPl] at hl2
        exact hl2
      repeat (first | refine SemW.run tblOk ?_ | refine jA (by omega) ?_ | refine jB (by omega) ?_ | refine jC (by omega) ?_ | refine jD (by omega) ?_ | refine jE rfl ?_ | refine jF (by omega) ?_ | (refine jG ?_; first | with_reducible (first | refine jH ?_ | refine jI ?_ | refine jJ ?_ | refine jK ?_ | refine jL ?_) | refine jM (by omega) ?_ | refine jN (by omega) ?_ | with_reducible refine jM rfl ?_ | refine jM (by assumption) ?_ | refine jN (by assumption) ?_ | refine jM (by decide) ?_ | refine jN (by decide) ?_) | refine jF (ptr_ok tblOk rfl rfl) ?_ | refine jO (fun _ => by kernel_rfl) ?_ | refine jF (by decide) ?_ | refine hS.ld rfl ?_ | refine hS.ldn rfl ?_ | (refine hS.st rfl rfl ?_; intro _ hS))
      have hS := hS.sub (List.sublist_cons_self _ _)
      have hS : St w T0 (rowH cb g rr rb q z0 (l.length + 1) c2 (l.flatMap rowC ++ ([.int .i64 0, .int .i64 0, .int .i64 0, .bool false, Str []] ++ fill)) s3) _ := hS.perm (List.Perm.cons _ (List.perm_append_comm (l₁ := [_, _]) (l₂ := [_])))
      refine SemW.draw tblOk mixed (fun w' => St w T0 (rowH cb g rr rb q z0 (l.length + 1) c2 (l.flatMap rowC ++ ([.int .i64 0, .int .i64 0, .int .i64 0, .bool false, Str []] ++ fill)) s3) w') [14] [0, 1, 2, 3, 4, 5, 6, 7, 8, 9, 11, 12, 13, 10, 14] (by kernel_rfl) hS.drew ?_
      have hS := hS.drew
      repeat (first | refine SemW.run tblOk ?_ | refine jA (by omega) ?_ | refine jB (by omega) ?_ | refine jC (by omega) ?_ | refine jD (by omega) ?_ | refine jE rfl ?_ | refine jF (by omega) ?_ | (refine jG ?_; first | with_reducible (first | refine jH ?_ | refine jI ?_ | refine jJ ?_ | refine jK ?_ | refine jL ?_) | refine jM (by omega) ?_ | refine jN (by omega) ?_ | with_reducible refine jM rfl ?_ | refine jM (by assumption) ?_ | refine jN (by assumption) ?_ | refine jM (by decide) ?_ | refine jN (by decide) ?_) | refine jF (ptr_ok tblOk rfl rfl) ?_ | refine jO (fun _ => by kernel_rfl) ?_ | refine jF (by decide) ?_ | refine hS.ldC rfl ?_ | refine hS.ldnC rfl ?_)
      refine hS.al ?_
      intro r w9 _ hS
      refine Chk.mk (hS.sub (List.sublist_cons_self _ _)) ?_
      repeat (first | refine SemW.run tblOk ?_ | refine jA (by omega) ?_ | refine jB (by omega) ?_ | refine jC (by omega) ?_ | refine jD (by omega) ?_ | refine jE rfl ?_ | refine jF (by omega) ?_ | (refine jG ?_; first | with_reducible (first | refine jH ?_ | refine jI ?_ | refine jJ ?_ | refine jK ?_ | refine jL ?_) | refine jM (by omega) ?_ | refine jN (by omega) ?_ | with_reducible refine jM rfl ?_ | refine jM (by assumption) ?_ | refine jN (by assumption) ?_ | refine jM (by decide) ?_ | refine jN (by decide) ?_) | refine jF (ptr_ok tblOk rfl rfl) ?_ | refine jO (fun _ => by kernel_rfl) ?_ | refine jF (by decide) ?_ | refine hS.ldC rfl ?_ | refine hS.ldnC rfl ?_)
      refine InvG.mk ⟨f_wire_reader_int, ptr rr, by kernel_rfl, ?_⟩
      refine Cl.mono (rint_spec (b := g) (s := s3) (hS.part (L := tgH g (l.flatMap rowC ++ ([.int .i64 0, .int .i64 0, .int .i64 0, .bool false, Str []] ++ fill)) T_api_Row rr rb s3)) (by omega) (offs := [0 + l.length * 5 + 0, 0 + l.length * 5 + 1, 0 + l.length * 5 + 2]) (hS.arr (b := r) (show r ∉ [g, rr, rb] from nodup_chunk (L := tgH g (l.flatMap rowC ++ ([.int .i64 0, .int .i64 0, .int .i64 0, .bool false, Str []] ++ fill)) T_api_Row rr rb s3) hS)) (by
        intro o ho
        simp only [List.mem_cons, List.mem_nil_iff, or_false] at ho
        simp only [List.length_append, hPl, List.length_cons, List.length_nil]
        omega) (by simp)) ?_
      rintro _ w10 hS'
      have hS := (hS.call (L := tgH g (l.flatMap rowC ++ ([.int .i64 0, .int .i64 0, .int .i64 0, .bool false, Str []] ++ fill)) T_api_Row rr rb s3) hS').sub (List.sublist_cons_self _ _)
      have hoff3 : [0 + l.length * 5 + 0, 0 + l.length * 5 + 1, 0 + l.length * 5 + 2] = [0, 1, 2].map fun o => (l.flatMap rowC).length + o := by simp [hPl]
      have hS : St w T0 (rowH cb g rr rb q z0 (l.length + 1) c2 (setL (l.flatMap rowC ++ ([.int .i64 0, .int .i64 0, .int .i64 0, .bool false, Str []] ++ fill)) [0 + l.length * 5 + 0, 0 + l.length * 5 + 1, 0 + l.length * 5 + 2] ((wInts 3 s3).1.map intV)) (wInts 3 s3).2) _ := hS
      rw [hoff3, setL_app] at hS
      obtain ⟨x, y, z, hy⟩ := wInts_cut3 s3
      have htl4 := wInts_tlen 3 s3
      rw [hy] at hS
      simp only at hS
      generalize (wInts 3 s3).2 = s4 at hS hy htl4
      have hS : St w T0 (rowH cb g rr rb q z0 (l.length + 1) c2 (l.flatMap rowC ++ ([.int .i64 x, .int .i64 y, .int .i64 z, .bool false, Str []] ++ fill)) s4) _ := hS
      repeat (first | refine SemW.run tblOk ?_ | refine jA (by omega) ?_ | refine jB (by omega) ?_ | refine jC (by omega) ?_ | refine jD (by omega) ?_ | refine jE rfl ?_ | refine jF (by omega) ?_ | (refine jG ?_; first | with_reducible (first | refine jH ?_ | refine jI ?_ | refine jJ ?_ | refine jK ?_ | refine jL ?_) | refine jM (by omega) ?_ | refine jN (by omega) ?_ | with_reducible refine jM rfl ?_ | refine jM (by assumption) ?_ | refine jN (by assumption) ?_ | refine jM (by decide) ?_ | refine jN (by decide) ?_) | refine jF (ptr_ok tblOk rfl rfl) ?_ | refine jO (fun _ => by kernel_rfl) ?_ | refine jF (by decide) ?_)
      refine SemW.draw tblOk mixed (fun w' => St w T0 (rowH cb g rr rb q z0 (l.length + 1) c2 (l.flatMap rowC ++ ([.int .i64 x, .int .i64 y, .int .i64 z, .bool false, Str []] ++ fill)) s4) w') [8] [0, 1, 2, 3, 5, 6, 7, 4, 8] (by kernel_rfl) hS.drew ?_
      have hS := hS.drew
      repeat (first | refine SemW.run tblOk ?_ | refine jA (by omega) ?_ | refine jB (by omega) ?_ | refine jC (by omega) ?_ | refine jD (by omega) ?_ | refine jE rfl ?_ | refine jF (by omega) ?_ | (refine jG ?_; first | with_reducible (first | refine jH ?_ | refine jI ?_ | refine jJ ?_ | refine jK ?_ | refine jL ?_) | refine jM (by omega) ?_ | refine jN (by omega) ?_ | with_reducible refine jM rfl ?_ | refine jM (by assumption) ?_ | refine jN (by assumption) ?_ | refine jM (by decide) ?_ | refine jN (by decide) ?_) | refine jF (ptr_ok tblOk rfl rfl) ?_ | refine jO (fun _ => by kernel_rfl) ?_ | refine jF (by decide) ?_ | refine hS.ldC rfl ?_ | refine hS.ldnC rfl ?_)
      refine hS.al ?_
      intro r w9 _ hS
      refine Chk.mk (hS.sub (List.sublist_cons_self _ _)) ?_
      repeat (first | refine SemW.run tblOk ?_ | refine jA (by omega) ?_ | refine jB (by omega) ?_ | refine jC (by omega) ?_ | refine jD (by omega) ?_ | refine jE rfl ?_ | refine jF (by omega) ?_ | (refine jG ?_; first | with_reducible (first | refine jH ?_ | refine jI ?_ | refine jJ ?_ | refine jK ?_ | refine jL ?_) | refine jM (by omega) ?_ | refine jN (by omega) ?_ | with_reducible refine jM rfl ?_ | refine jM (by assumption) ?_ | refine jN (by assumption) ?_ | refine jM (by decide) ?_ | refine jN (by decide) ?_) | refine jF (ptr_ok tblOk rfl rfl) ?_ | refine jO (fun _ => by kernel_rfl) ?_ | refine jF (by decide) ?_ | refine hS.ldC rfl ?_ | refine hS.ldnC rfl ?_)
      refine InvG.mk ⟨f_wire_reader_marks, ptr rr, by kernel_rfl, ?_⟩
      refine Cl.mono (rmarks_spec (b := g) (s := s4) (hS.part (L := tgH g (l.flatMap rowC ++ ([.int .i64 x, .int .i64 y, .int .i64 z, .bool false, Str []] ++ fill)) T_api_Row rr rb s4)) (by omega) (offs := [0 + l.length * 5 + 3]) (hS.arr (b := r) (show r ∉ [g, rr, rb] from nodup_chunk (L := tgH g (l.flatMap rowC ++ ([.int .i64 x, .int .i64 y, .int .i64 z, .bool false, Str []] ++ fill)) T_api_Row rr rb s4) hS)) (by
        intro o ho
        simp only [List.mem_cons, List.mem_nil_iff, or_false] at ho
        simp only [List.length_append, hPl, List.length_cons, List.length_nil]
        omega) (by simp)) ?_
      rintro _ w10 hS'
      have hS := (hS.call (L := tgH g (l.flatMap rowC ++ ([.int .i64 x, .int .i64 y, .int .i64 z, .bool false, Str []] ++ fill)) T_api_Row rr rb s4) hS').sub (List.sublist_cons_self _ _)
      have hoff1 : [0 + l.length * 5 + 3] = [3].map fun o => (l.flatMap rowC).length + o := by simp [hPl]
      have hS : St w T0 (rowH cb g rr rb q z0 (l.length + 1) c2 (setL (l.flatMap rowC ++ ([.int .i64 x, .int .i64 y, .int .i64 z, .bool false, Str []] ++ fill)) [0 + l.length * 5 + 3] ((wMarks 1 s4).1.map Value.bool)) (wMarks 1 s4).2) _ := hS
      rw [hoff1, setL_app] at hS
      obtain ⟨m, hm⟩ := wMarks_cut1 s4
      have htl5 := wMarks_tlen 1 s4
      rw [hm] at hS
      simp only at hS
      generalize (wMarks 1 s4).2 = s5 at hS hm htl5
      have hS : St w T0 (rowH cb g rr rb q z0 (l.length + 1) c2 (l.flatMap rowC ++ ([.int .i64 x, .int .i64 y, .int .i64 z, .bool m, Str []] ++ fill)) s5) _ := hS
      repeat (first | refine SemW.run tblOk ?_ | refine jA (by omega) ?_ | refine jB (by omega) ?_ | refine jC (by omega) ?_ | refine jD (by omega) ?_ | refine jE rfl ?_ | refine jF (by omega) ?_ | (refine jG ?_; first | with_reducible (first | refine jH ?_ | refine jI ?_ | refine jJ ?_ | refine jK ?_ | refine jL ?_) | refine jM (by omega) ?_ | refine jN (by omega) ?_ | with_reducible refine jM rfl ?_ | refine jM (by assumption) ?_ | refine jN (by assumption) ?_ | refine jM (by decide) ?_ | refine jN (by decide) ?_) | refine jF (ptr_ok tblOk rfl rfl) ?_ | refine jO (fun _ => by kernel_rfl) ?_ | refine jF (by decide) ?_)
      refine SemW.draw tblOk mixed (fun w' => St w T0 (rowH cb g rr rb q z0 (l.length + 1) c2 (l.flatMap rowC ++ ([.int .i64 x, .int .i64 y, .int .i64 z, .bool m, Str []] ++ fill)) s5) w') [7] [0, 1, 2, 3, 4, 5, 6, 7] (by kernel_rfl) hS.drew ?_
      have hS := hS.drew
      repeat (first | refine SemW.run tblOk ?_ | refine jA (by omega) ?_ | refine jB (by omega) ?_ | refine jC (by omega) ?_ | refine jD (by omega) ?_ | refine jE rfl ?_ | refine jF (by omega) ?_ | (refine jG ?_; first | with_reducible (first | refine jH ?_ | refine jI ?_ | refine jJ ?_ | refine jK ?_ | refine jL ?_) | refine jM (by omega) ?_ | refine jN (by omega) ?_ | with_reducible refine jM rfl ?_ | refine jM (by assumption) ?_ | refine jN (by assumption) ?_ | refine jM (by decide) ?_ | refine jN (by decide) ?_) | refine jF (ptr_ok tblOk rfl rfl) ?_ | refine jO (fun _ => by kernel_rfl) ?_ | refine jF (by decide) ?_ | refine hS.ldC rfl ?_ | refine hS.ldnC rfl ?_)
      refine InvG.mk ⟨f_wire_reader_text, ptr rr, by kernel_rfl, ?_⟩
      refine Cl.mono (rtext_spec (b := g) (s := s5) (o := 0 + l.length * 5 + 4) (hS.part (L := tgH g (l.flatMap rowC ++ ([.int .i64 x, .int .i64 y, .int .i64 z, .bool m, Str []] ++ fill)) T_api_Row rr rb s5)) (by omega) (by
        simp only [List.length_append, hPl, List.length_cons, List.length_nil]
        omega)) ?_
      rintro _ w10 hS'
      have hS := hS.call (L := tgH g (l.flatMap rowC ++ ([.int .i64 x, .int .i64 y, .int .i64 z, .bool m, Str []] ++ fill)) T_api_Row rr rb s5) hS'
      have htl6 := wText_tlen s5
      have ht6 : wText s5 = ((wText s5).1, (wText s5).2) := rfl
      have hS : St w T0 (rowH cb g rr rb q z0 (l.length + 1) c2 ((l.flatMap rowC ++ ([.int .i64 x, .int .i64 y, .int .i64 z, .bool m, Str []] ++ fill)).set (0 + l.length * 5 + 4) (Str (wText s5).1)) (wText s5).2) _ := hS
      generalize (wText s5).1 = tx at hS ht6
      generalize (wText s5).2 = s6 at hS ht6 htl6
      rw [show 0 + l.length * 5 + 4 = (l.flatMap rowC).length + 4 by omega, List.set_append_right _ _ (by omega), Nat.add_sub_cancel_left] at hS
      have hrow : wRow s3 = (⟨x, y, z, m, tx⟩, s6) := by
        unfold wRow tk
        rw [hy]
        simp only
        rw [hm]
        simp only
        rw [ht6]
        rfl
      have e8 : l.length + 1 = (l ++ [(⟨x, y, z, m, tx⟩ : RowM)]).length := by simp
      have hvn := vec_row (l := l) (row := ⟨x, y, z, m, tx⟩) (g := g) hfl hcap
      have hxn := wRows_next hrow hlt hx
      rw [e8] at hS
      repeat (first | refine SemW.run tblOk ?_ | refine jA (by omega) ?_ | refine jB (by omega) ?_ | refine jC (by omega) ?_ | refine jD (by omega) ?_ | refine jE rfl ?_ | refine jF (by omega) ?_ | (refine jG ?_; first | with_reducible (first | refine jH ?_ | refine jI ?_ | refine jJ ?_ | refine jK ?_ | refine jL ?_) | refine jM (by omega) ?_ | refine jN (by omega) ?_ | with_reducible refine jM rfl ?_ | refine jM (by assumption) ?_ | refine jN (by assumption) ?_ | refine jM (by decide) ?_ | refine jN (by decide) ?_) | refine jF (ptr_ok tblOk rfl rfl) ?_ | refine jO (fun _ => by kernel_rfl) ?_ | refine jF (by decide) ?_)
      refine ⟨⟨l ++ [⟨x, y, z, m, tx⟩], s6, some ⟨g, 0, none⟩, c2⟩, ⟨rfl, rfl, rfl, congrArg (Value.int .i64) (by rw [← e8]; rfl), trivial⟩, ⟨⟨by simp only; omega, hxn, by simp only; omega⟩, _, hvn, ?_⟩, by simp only; omega⟩
      exact hS.perm (List.Perm.cons _ (List.perm_append_comm (l₁ := [_]) (l₂ := [_, _])))
    · have hle : n - l.length = 0 := by omega
      rw [hle] at hx
      have hx : (l, s3) = wRows n s2 := by rw [← hx]; simp [wRows]
      rw [← hx]
      repeat (first | refine SemW.run tblOk ?_ | refine jA (by omega) ?_ | refine jB (by omega) ?_ | refine jC (by omega) ?_ | refine jD (by omega) ?_ | refine jE rfl ?_ | refine jF (by omega) ?_ | (refine jG ?_; first | with_reducible (first | refine jH ?_ | refine jI ?_ | refine jJ ?_ | refine jK ?_ | refine jL ?_) | refine jM (by omega) ?_ | refine jN (by omega) ?_ | with_reducible refine jM rfl ?_ | refine jM (by assumption) ?_ | refine jN (by assumption) ?_ | refine jM (by decide) ?_ | refine jN (by decide) ?_) | refine jF (ptr_ok tblOk rfl rfl) ?_ | refine jO (fun _ => by kernel_rfl) ?_ | refine jF (by decide) ?_)
      exact ⟨a, cap, Lv, hv, hS⟩
  rw [if_neg h1]
  by_cases h2 : k = 2
  · subst h2
    rw [if_pos rfl]
    repeat (first | refine SemW.run tblOk ?_ | refine jA (by omega) ?_ | refine jB (by omega) ?_ | refine jC (by omega) ?_ | refine jD (by omega) ?_ | refine jE rfl ?_ | refine jF (by omega) ?_ | (refine jG ?_; first | with_reducible (first | refine jH ?_ | refine jI ?_ | refine jJ ?_ | refine jK ?_ | refine jL ?_) | refine jM (by omega) ?_ | refine jN (by omega) ?_ | with_reducible refine jM rfl ?_ | refine jM (by assumption) ?_ | refine jN (by assumption) ?_ | refine jM (by decide) ?_ | refine jN (by decide) ?_) | refine jF (ptr_ok tblOk rfl rfl) ?_ | refine jO (fun _ => by kernel_rfl) ?_ | refine jF (by decide) ?_)
    refine SemW.draw tblOk mixed (fun w' => St w T0 (cmdH cb rr rb (hdC 2 q) none 0 s []) w') [11] [0, 1, 2, 3, 4, 5, 6, 8, 9, 10, 7, 11] (by kernel_rfl) hS.drew ?_
    have hS := hS.drew
    repeat (first | refine SemW.run tblOk ?_ | refine jA (by omega) ?_ | refine jB (by omega) ?_ | refine jC (by omega) ?_ | refine jD (by omega) ?_ | refine jE rfl ?_ | refine jF (by omega) ?_ | (refine jG ?_; first | with_reducible (first | refine jH ?_ | refine jI ?_ | refine jJ ?_ | refine jK ?_ | refine jL ?_) | refine jM (by omega) ?_ | refine jN (by omega) ?_ | with_reducible refine jM rfl ?_ | refine jM (by assumption) ?_ | refine jN (by assumption) ?_ | refine jM (by decide) ?_ | refine jN (by decide) ?_) | refine jF (ptr_ok tblOk rfl rfl) ?_ | refine jO (fun _ => by kernel_rfl) ?_ | refine jF (by decide) ?_ | refine hS.ldC rfl ?_ | refine hS.ldnC rfl ?_)
    refine hS.al ?_
    intro r w3 _ hS
    refine Chk.mk (hS.sub (List.sublist_cons_self _ _)) ?_
    repeat (first | refine SemW.run tblOk ?_ | refine jA (by omega) ?_ | refine jB (by omega) ?_ | refine jC (by omega) ?_ | refine jD (by omega) ?_ | refine jE rfl ?_ | refine jF (by omega) ?_ | (refine jG ?_; first | with_reducible (first | refine jH ?_ | refine jI ?_ | refine jJ ?_ | refine jK ?_ | refine jL ?_) | refine jM (by omega) ?_ | refine jN (by omega) ?_ | with_reducible refine jM rfl ?_ | refine jM (by assumption) ?_ | refine jN (by assumption) ?_ | refine jM (by decide) ?_ | refine jN (by decide) ?_) | refine jF (ptr_ok tblOk rfl rfl) ?_ | refine jO (fun _ => by kernel_rfl) ?_ | refine jF (by decide) ?_ | refine hS.ldC rfl ?_ | refine hS.ldnC rfl ?_)
    refine InvG.mk ⟨f_wire_reader_int, ptr rr, by kernel_rfl, ?_⟩
    refine Cl.mono (rint_spec (b := cb) (s := s) (hS.part (L := (cmdH cb rr rb (hdC 2 q) none 0 s []))) (by omega) (offs := [2, 4]) (hS.arr (b := r) (show r ∉ [cb, rr, rb] from nodup_chunk (L := (cmdH cb rr rb (hdC 2 q) none 0 s [])) hS)) (by simp) (by simp)) ?_
    rintro _ w4 hS'
    have hS := (hS.call (L := (cmdH cb rr rb (hdC 2 q) none 0 s [])) hS').sub (List.sublist_cons_self _ _)
    repeat (first | refine SemW.run tblOk ?_ | refine jA (by omega) ?_ | refine jB (by omega) ?_ | refine jC (by omega) ?_ | refine jD (by omega) ?_ | refine jE rfl ?_ | refine jF (by omega) ?_ | (refine jG ?_; first | with_reducible (first | refine jH ?_ | refine jI ?_ | refine jJ ?_ | refine jK ?_ | refine jL ?_) | refine jM (by omega) ?_ | refine jN (by omega) ?_ | with_reducible refine jM rfl ?_ | refine jM (by assumption) ?_ | refine jN (by assumption) ?_ | refine jM (by decide) ?_ | refine jN (by decide) ?_) | refine jF (ptr_ok tblOk rfl rfl) ?_ | refine jO (fun _ => by kernel_rfl) ?_ | refine jF (by decide) ?_)
    obtain ⟨y, z, hy, -, -⟩ := wInts_cut2 s
    have htl := wInts_tlen 2 s
    unfold wField tk
    simp only
    have hS : St w T0 (tgH cb (setL (cmdC (hdC 2 q) none 0) [2, 4] ((wInts 2 s).1.map intV)) T_api_Command rr rb (wInts 2 s).2) _ := hS
    rw [hy] at hS ⊢
    simp only at hS ⊢
    generalize (wInts 2 s).2 = s1 at hS htl ⊢
    have hS : St w T0 (tgH cb (cmdC { hdC 2 q with id := y, eq := z } none 0) T_api_Command rr rb s1) _ := hS
    refine SemW.loop (fun k : Nat => [(0, .iface T_Ptr_wire_reader (ptr rr)), (1, ptr cb), (116, .int .i64 k)])
      (fun k w' => k ≤ 4 ∧ St w T0 (tgH cb (setL (cmdC { hdC 2 q with id := y, eq := z } none 0) ([14, 15, 16, 17].take k) ((wInts k s1).1.map intV)) T_api_Command rr rb (wInts k s1).2) w') (fun k => 4 - k) 0
      ⟨rfl, rfl, rfl, trivial⟩ ⟨Nat.zero_le _, hS⟩ ?_
    clear hS hS'
    rintro k w6 ⟨hk, hS⟩
    by_cases hk4 : k < 4
    · have hsucc := wInts_succ k s1
      have htl2 := wInts_tlen k s1
      have hwl := wInts_len k s1
      have hx : [14, 15, 16, 17][k] = 14 + k * 1 := by
        match k, hk4 with
        | 0, _ => rfl
        | 1, _ => rfl
        | 2, _ => rfl
        | 3, _ => rfl
      have hset := setL_snoc ([14, 15, 16, 17].take k) ((wInts k s1).1.map intV) (cmdC { hdC 2 q with id := y, eq := z } none 0) [14, 15, 16, 17][k] (intV (rbInt (wInts k s1).2).1) (by rw [List.length_take, List.length_map, hwl]; simp; omega)
      rw [← List.take_succ_eq_append_getElem hk4, hx] at hset
      have hsl := setL_len ([14, 15, 16, 17].take k) ((wInts k s1).1.map intV) (cmdC { hdC 2 q with id := y, eq := z } none 0)
      have hfin : tgH cb (setL (cmdC { hdC 2 q with id := y, eq := z } none 0) ([14, 15, 16, 17].take (k + 1)) ((wInts (k + 1) s1).1.map intV)) T_api_Command rr rb (wInts (k + 1) s1).2 = tgH cb ((setL (cmdC { hdC 2 q with id := y, eq := z } none 0) ([14, 15, 16, 17].take k) ((wInts k s1).1.map intV)).set (14 + k * 1) (intV (rbInt (wInts k s1).2).1)) T_api_Command rr rb (rbInt (wInts k s1).2).2 := by
        rw [hsucc, ← hset]; simp
      have hsl : (setL (cmdC { hdC 2 q with id := y, eq := z } none 0) ([14, 15, 16, 17].take k) ((wInts k s1).1.map intV)).length = 19 := hsl
      generalize setL (cmdC { hdC 2 q with id := y, eq := z } none 0) ([14, 15, 16, 17].take k) ((wInts k s1).1.map intV) = ys at hS hfin hsl
      generalize (wInts k s1).2 = s3 at hS hfin htl2
      repeat (first | refine SemW.run tblOk ?_ | refine jA (by omega) ?_ | refine jB (by omega) ?_ | refine jC (by omega) ?_ | refine jD (by omega) ?_ | refine jE rfl ?_ | refine jF (by omega) ?_ | (refine jG ?_; first | with_reducible (first | refine jH ?_ | refine jI ?_ | refine jJ ?_ | refine jK ?_ | refine jL ?_) | refine jM (by omega) ?_ | refine jN (by omega) ?_ | with_reducible refine jM rfl ?_ | refine jM (by assumption) ?_ | refine jN (by assumption) ?_ | refine jM (by decide) ?_ | refine jN (by decide) ?_) | refine jF (ptr_ok tblOk rfl rfl) ?_ | refine jO (fun _ => by kernel_rfl) ?_ | refine jF (by decide) ?_)
      refine SemW.draw tblOk mixed (fun w' => St w T0 (tgH cb ys T_api_Command rr rb s3) w') [10] [0, 1, 2, 3, 4, 5, 7, 8, 9, 6, 10] (by kernel_rfl) hS.drew ?_
      have hS := hS.drew
      repeat (first | refine SemW.run tblOk ?_ | refine jA (by omega) ?_ | refine jB (by omega) ?_ | refine jC (by omega) ?_ | refine jD (by omega) ?_ | refine jE rfl ?_ | refine jF (by omega) ?_ | (refine jG ?_; first | with_reducible (first | refine jH ?_ | refine jI ?_ | refine jJ ?_ | refine jK ?_ | refine jL ?_) | refine jM (by omega) ?_ | refine jN (by omega) ?_ | with_reducible refine jM rfl ?_ | refine jM (by assumption) ?_ | refine jN (by assumption) ?_ | refine jM (by decide) ?_ | refine jN (by decide) ?_) | refine jF (ptr_ok tblOk rfl rfl) ?_ | refine jO (fun _ => by kernel_rfl) ?_ | refine jF (by decide) ?_ | refine hS.ldC rfl ?_ | refine hS.ldnC rfl ?_)
      refine hS.al ?_
      intro r w3 _ hS
      refine Chk.mk (hS.sub (List.sublist_cons_self _ _)) ?_
      repeat (first | refine SemW.run tblOk ?_ | refine jA (by omega) ?_ | refine jB (by omega) ?_ | refine jC (by omega) ?_ | refine jD (by omega) ?_ | refine jE rfl ?_ | refine jF (by omega) ?_ | (refine jG ?_; first | with_reducible (first | refine jH ?_ | refine jI ?_ | refine jJ ?_ | refine jK ?_ | refine jL ?_) | refine jM (by omega) ?_ | refine jN (by omega) ?_ | with_reducible refine jM rfl ?_ | refine jM (by assumption) ?_ | refine jN (by assumption) ?_ | refine jM (by decide) ?_ | refine jN (by decide) ?_) | refine jF (ptr_ok tblOk rfl rfl) ?_ | refine jO (fun _ => by kernel_rfl) ?_ | refine jF (by decide) ?_ | refine hS.ldC rfl ?_ | refine hS.ldnC rfl ?_)
      refine InvG.mk ⟨f_wire_reader_int, ptr rr, by kernel_rfl, ?_⟩
      refine Cl.mono (rint_spec (b := cb) (s := s3) (hS.part (L := tgH cb ys T_api_Command rr rb s3)) (by omega) (offs := [14 + k * 1]) (hS.arr (b := r) (show r ∉ [cb, rr, rb] from nodup_chunk (L := tgH cb ys T_api_Command rr rb s3) hS)) (by intro o ho; rw [List.mem_singleton] at ho; omega) (by simp)) ?_
      rintro _ w4 hS'
      have hS := (hS.call (L := tgH cb ys T_api_Command rr rb s3) hS').sub (List.sublist_cons_self _ _)
      repeat (first | refine SemW.run tblOk ?_ | refine jA (by omega) ?_ | refine jB (by omega) ?_ | refine jC (by omega) ?_ | refine jD (by omega) ?_ | refine jE rfl ?_ | refine jF (by omega) ?_ | (refine jG ?_; first | with_reducible (first | refine jH ?_ | refine jI ?_ | refine jJ ?_ | refine jK ?_ | refine jL ?_) | refine jM (by omega) ?_ | refine jN (by omega) ?_ | with_reducible refine jM rfl ?_ | refine jM (by assumption) ?_ | refine jN (by assumption) ?_ | refine jM (by decide) ?_ | refine jN (by decide) ?_) | refine jF (ptr_ok tblOk rfl rfl) ?_ | refine jO (fun _ => by kernel_rfl) ?_ | refine jF (by decide) ?_)
      exact ⟨k + 1, ⟨rfl, rfl, rfl, trivial⟩, ⟨by omega, by rw [hfin]; exact hS⟩, by omega⟩
    · have hke : k = 4 := by omega
      subst hke
      obtain ⟨a1, a2, a3, a4, hy4⟩ := wInts_cut4 s1
      rw [hy4] at hS ⊢
      repeat (first | refine SemW.run tblOk ?_ | refine jA (by omega) ?_ | refine jB (by omega) ?_ | refine jC (by omega) ?_ | refine jD (by omega) ?_ | refine jE rfl ?_ | refine jF (by omega) ?_ | (refine jG ?_; first | with_reducible (first | refine jH ?_ | refine jI ?_ | refine jJ ?_ | refine jK ?_ | refine jL ?_) | refine jM (by omega) ?_ | refine jN (by omega) ?_ | with_reducible refine jM rfl ?_ | refine jM (by assumption) ?_ | refine jN (by assumption) ?_ | refine jM (by decide) ?_ | refine jN (by decide) ?_) | refine jF (ptr_ok tblOk rfl rfl) ?_ | refine jO (fun _ => by kernel_rfl) ?_ | refine jF (by decide) ?_)
      exact ⟨none, 0, [], Vec.nil, hS⟩
  rw [if_neg h2]
  by_cases h3 : k = 3
  · subst h3
    rw [if_pos rfl]
    repeat (first | refine SemW.run tblOk ?_ | refine jA (by omega) ?_ | refine jB (by omega) ?_ | refine jC (by omega) ?_ | refine jD (by omega) ?_ | refine jE rfl ?_ | refine jF (by omega) ?_ | (refine jG ?_; first | with_reducible (first | refine jH ?_ | refine jI ?_ | refine jJ ?_ | refine jK ?_ | refine jL ?_) | refine jM (by omega) ?_ | refine jN (by omega) ?_ | with_reducible refine jM rfl ?_ | refine jM (by assumption) ?_ | refine jN (by assumption) ?_ | refine jM (by decide) ?_ | refine jN (by decide) ?_) | refine jF (ptr_ok tblOk rfl rfl) ?_ | refine jO (fun _ => by kernel_rfl) ?_ | refine jF (by decide) ?_)
    refine SemW.draw tblOk mixed (fun w' => St w T0 (cmdH cb rr rb (hdC 3 q) none 0 s []) w') [18] [0, 1, 2, 3, 4, 5, 6, 7, 8, 9, 10, 11, 12, 13, 15, 16, 17, 14, 18] (by kernel_rfl) hS.drew ?_
    have hS := hS.drew
    repeat (first | refine SemW.run tblOk ?_ | refine jA (by omega) ?_ | refine jB (by omega) ?_ | refine jC (by omega) ?_ | refine jD (by omega) ?_ | refine jE rfl ?_ | refine jF (by omega) ?_ | (refine jG ?_; first | with_reducible (first | refine jH ?_ | refine jI ?_ | refine jJ ?_ | refine jK ?_ | refine jL ?_) | refine jM (by omega) ?_ | refine jN (by omega) ?_ | with_reducible refine jM rfl ?_ | refine jM (by assumption) ?_ | refine jN (by assumption) ?_ | refine jM (by decide) ?_ | refine jN (by decide) ?_) | refine jF (ptr_ok tblOk rfl rfl) ?_ | refine jO (fun _ => by kernel_rfl) ?_ | refine jF (by decide) ?_ | refine hS.ldC rfl ?_ | refine hS.ldnC rfl ?_)
    refine hS.al ?_
    intro r w3 _ hS
    refine Chk.mk (hS.sub (List.sublist_cons_self _ _)) ?_
    repeat (first | refine SemW.run tblOk ?_ | refine jA (by omega) ?_ | refine jB (by omega) ?_ | refine jC (by omega) ?_ | refine jD (by omega) ?_ | refine jE rfl ?_ | refine jF (by omega) ?_ | (refine jG ?_; first | with_reducible (first | refine jH ?_ | refine jI ?_ | refine jJ ?_ | refine jK ?_ | refine jL ?_) | refine jM (by omega) ?_ | refine jN (by omega) ?_ | with_reducible refine jM rfl ?_ | refine jM (by assumption) ?_ | refine jN (by assumption) ?_ | refine jM (by decide) ?_ | refine jN (by decide) ?_) | refine jF (ptr_ok tblOk rfl rfl) ?_ | refine jO (fun _ => by kernel_rfl) ?_ | refine jF (by decide) ?_ | refine hS.ldC rfl ?_ | refine hS.ldnC rfl ?_)
    refine InvG.mk ⟨f_wire_reader_int, ptr rr, by kernel_rfl, ?_⟩
    refine Cl.mono (rint_spec (b := cb) (s := s) (hS.part (L := (cmdH cb rr rb (hdC 3 q) none 0 s []))) (by omega) (offs := [2, 3, 6, 5]) (hS.arr (b := r) (show r ∉ [cb, rr, rb] from nodup_chunk (L := (cmdH cb rr rb (hdC 3 q) none 0 s [])) hS)) (by simp) (by simp)) ?_
    rintro _ w4 hS'
    have hS := (hS.call (L := (cmdH cb rr rb (hdC 3 q) none 0 s [])) hS').sub (List.sublist_cons_self _ _)
    repeat (first | refine SemW.run tblOk ?_ | refine jA (by omega) ?_ | refine jB (by omega) ?_ | refine jC (by omega) ?_ | refine jD (by omega) ?_ | refine jE rfl ?_ | refine jF (by omega) ?_ | (refine jG ?_; first | with_reducible (first | refine jH ?_ | refine jI ?_ | refine jJ ?_ | refine jK ?_ | refine jL ?_) | refine jM (by omega) ?_ | refine jN (by omega) ?_ | with_reducible refine jM rfl ?_ | refine jM (by assumption) ?_ | refine jN (by assumption) ?_ | refine jM (by decide) ?_ | refine jN (by decide) ?_) | refine jF (ptr_ok tblOk rfl rfl) ?_ | refine jO (fun _ => by kernel_rfl) ?_ | refine jF (by decide) ?_)
    obtain ⟨x, y, z, u, hy⟩ := wInts_cut4 s
    have htl := wInts_tlen 4 s
    unfold wField tk
    simp only
    have hS : St w T0 (tgH cb (setL (cmdC (hdC 3 q) none 0) [2, 3, 6, 5] ((wInts 4 s).1.map intV)) T_api_Command rr rb (wInts 4 s).2) _ := hS
    rw [hy] at hS ⊢
    simp only at hS ⊢
    generalize (wInts 4 s).2 = s1 at hS htl ⊢
    have hS : St w T0 (tgH cb (cmdC { hdC 3 q with id := x, fl := y, wcab := z, cls := u } none 0) T_api_Command rr rb s1) _ := hS
    refine SemW.draw tblOk mixed (fun w' => St w T0 (tgH cb (cmdC { hdC 3 q with id := x, fl := y, wcab := z, cls := u } none 0) T_api_Command rr rb s1) w') [19] [0, 1, 2, 3, 4, 5, 6, 7, 8, 9, 10, 11, 12, 13, 14, 16, 17, 18, 15, 19] (by kernel_rfl) hS.drew ?_
    have hS := hS.drew
    repeat (first | refine SemW.run tblOk ?_ | refine jA (by omega) ?_ | refine jB (by omega) ?_ | refine jC (by omega) ?_ | refine jD (by omega) ?_ | refine jE rfl ?_ | refine jF (by omega) ?_ | (refine jG ?_; first | with_reducible (first | refine jH ?_ | refine jI ?_ | refine jJ ?_ | refine jK ?_ | refine jL ?_) | refine jM (by omega) ?_ | refine jN (by omega) ?_ | with_reducible refine jM rfl ?_ | refine jM (by assumption) ?_ | refine jN (by assumption) ?_ | refine jM (by decide) ?_ | refine jN (by decide) ?_) | refine jF (ptr_ok tblOk rfl rfl) ?_ | refine jO (fun _ => by kernel_rfl) ?_ | refine jF (by decide) ?_ | refine hS.ldC rfl ?_ | refine hS.ldnC rfl ?_)
    refine hS.al ?_
    intro r w3 _ hS
    refine Chk.mk (hS.sub (List.sublist_cons_self _ _)) ?_
    repeat (first | refine SemW.run tblOk ?_ | refine jA (by omega) ?_ | refine jB (by omega) ?_ | refine jC (by omega) ?_ | refine jD (by omega) ?_ | refine jE rfl ?_ | refine jF (by omega) ?_ | (refine jG ?_; first | with_reducible (first | refine jH ?_ | refine jI ?_ | refine jJ ?_ | refine jK ?_ | refine jL ?_) | refine jM (by omega) ?_ | refine jN (by omega) ?_ | with_reducible refine jM rfl ?_ | refine jM (by assumption) ?_ | refine jN (by assumption) ?_ | refine jM (by decide) ?_ | refine jN (by decide) ?_) | refine jF (ptr_ok tblOk rfl rfl) ?_ | refine jO (fun _ => by kernel_rfl) ?_ | refine jF (by decide) ?_ | refine hS.ldC rfl ?_ | refine hS.ldnC rfl ?_)
    refine InvG.mk ⟨f_wire_reader_marks, ptr rr, by kernel_rfl, ?_⟩
    refine Cl.mono (rmarks_spec (b := cb) (s := s1) (hS.part (L := tgH cb (cmdC { hdC 3 q with id := x, fl := y, wcab := z, cls := u } none 0) T_api_Command rr rb s1)) (by omega) (offs := [7, 8, 9, 10]) (hS.arr (b := r) (show r ∉ [cb, rr, rb] from nodup_chunk (L := tgH cb (cmdC { hdC 3 q with id := x, fl := y, wcab := z, cls := u } none 0) T_api_Command rr rb s1) hS)) (by simp) (by simp)) ?_
    rintro _ w4 hS'
    have hS := (hS.call (L := tgH cb (cmdC { hdC 3 q with id := x, fl := y, wcab := z, cls := u } none 0) T_api_Command rr rb s1) hS').sub (List.sublist_cons_self _ _)
    obtain ⟨b1, b2, b3, b4, hm⟩ := wMarks_cut4 s1
    repeat (first | refine SemW.run tblOk ?_ | refine jA (by omega) ?_ | refine jB (by omega) ?_ | refine jC (by omega) ?_ | refine jD (by omega) ?_ | refine jE rfl ?_ | refine jF (by omega) ?_ | (refine jG ?_; first | with_reducible (first | refine jH ?_ | refine jI ?_ | refine jJ ?_ | refine jK ?_ | refine jL ?_) | refine jM (by omega) ?_ | refine jN (by omega) ?_ | with_reducible refine jM rfl ?_ | refine jM (by assumption) ?_ | refine jN (by assumption) ?_ | refine jM (by decide) ?_ | refine jN (by decide) ?_) | refine jF (ptr_ok tblOk rfl rfl) ?_ | refine jO (fun _ => by kernel_rfl) ?_ | refine jF (by decide) ?_)
    have hS : St w T0 (tgH cb (setL (cmdC { hdC 3 q with id := x, fl := y, wcab := z, cls := u } none 0) [7, 8, 9, 10] ((wMarks 4 s1).1.map Value.bool)) T_api_Command rr rb (wMarks 4 s1).2) _ := hS
    rw [hm] at hS ⊢
    exact ⟨none, 0, [], Vec.nil, hS⟩
  rw [if_neg h3]
  by_cases h6 : k = 6
  · subst h6
    rw [if_pos rfl]
    repeat (first | refine SemW.run tblOk ?_ | refine jA (by omega) ?_ | refine jB (by omega) ?_ | refine jC (by omega) ?_ | refine jD (by omega) ?_ | refine jE rfl ?_ | refine jF (by omega) ?_ | (refine jG ?_; first | with_reducible (first | refine jH ?_ | refine jI ?_ | refine jJ ?_ | refine jK ?_ | refine jL ?_) | refine jM (by omega) ?_ | refine jN (by omega) ?_ | with_reducible refine jM rfl ?_ | refine jM (by assumption) ?_ | refine jN (by assumption) ?_ | refine jM (by decide) ?_ | refine jN (by decide) ?_) | refine jF (ptr_ok tblOk rfl rfl) ?_ | refine jO (fun _ => by kernel_rfl) ?_ | refine jF (by decide) ?_)
    refine SemW.draw tblOk mixed (fun w' => St w T0 (cmdH cb rr rb (hdC 6 q) none 0 s []) w') [12] [0, 1, 2, 3, 4, 5, 6, 7, 9, 10, 11, 8, 12] (by kernel_rfl) hS.drew ?_
    have hS := hS.drew
    repeat (first | refine SemW.run tblOk ?_ | refine jA (by omega) ?_ | refine jB (by omega) ?_ | refine jC (by omega) ?_ | refine jD (by omega) ?_ | refine jE rfl ?_ | refine jF (by omega) ?_ | (refine jG ?_; first | with_reducible (first | refine jH ?_ | refine jI ?_ | refine jJ ?_ | refine jK ?_ | refine jL ?_) | refine jM (by omega) ?_ | refine jN (by omega) ?_ | with_reducible refine jM rfl ?_ | refine jM (by assumption) ?_ | refine jN (by assumption) ?_ | refine jM (by decide) ?_ | refine jN (by decide) ?_) | refine jF (ptr_ok tblOk rfl rfl) ?_ | refine jO (fun _ => by kernel_rfl) ?_ | refine jF (by decide) ?_ | refine hS.ldC rfl ?_ | refine hS.ldnC rfl ?_)
    refine hS.al ?_
    intro r w3 _ hS
    refine Chk.mk (hS.sub (List.sublist_cons_self _ _)) ?_
    repeat (first | refine SemW.run tblOk ?_ | refine jA (by omega) ?_ | refine jB (by omega) ?_ | refine jC (by omega) ?_ | refine jD (by omega) ?_ | refine jE rfl ?_ | refine jF (by omega) ?_ | (refine jG ?_; first | with_reducible (first | refine jH ?_ | refine jI ?_ | refine jJ ?_ | refine jK ?_ | refine jL ?_) | refine jM (by omega) ?_ | refine jN (by omega) ?_ | with_reducible refine jM rfl ?_ | refine jM (by assumption) ?_ | refine jN (by assumption) ?_ | refine jM (by decide) ?_ | refine jN (by decide) ?_) | refine jF (ptr_ok tblOk rfl rfl) ?_ | refine jO (fun _ => by kernel_rfl) ?_ | refine jF (by decide) ?_ | refine hS.ldC rfl ?_ | refine hS.ldnC rfl ?_)
    refine InvG.mk ⟨f_wire_reader_int, ptr rr, by kernel_rfl, ?_⟩
    refine Cl.mono (rint_spec (b := cb) (s := s) (hS.part (L := (cmdH cb rr rb (hdC 6 q) none 0 s []))) (by omega) (offs := [2, 11]) (hS.arr (b := r) (show r ∉ [cb, rr, rb] from nodup_chunk (L := (cmdH cb rr rb (hdC 6 q) none 0 s [])) hS)) (by simp) (by simp)) ?_
    rintro _ w4 hS'
    have hS := (hS.call (L := (cmdH cb rr rb (hdC 6 q) none 0 s [])) hS').sub (List.sublist_cons_self _ _)
    repeat (first | refine SemW.run tblOk ?_ | refine jA (by omega) ?_ | refine jB (by omega) ?_ | refine jC (by omega) ?_ | refine jD (by omega) ?_ | refine jE rfl ?_ | refine jF (by omega) ?_ | (refine jG ?_; first | with_reducible (first | refine jH ?_ | refine jI ?_ | refine jJ ?_ | refine jK ?_ | refine jL ?_) | refine jM (by omega) ?_ | refine jN (by omega) ?_ | with_reducible refine jM rfl ?_ | refine jM (by assumption) ?_ | refine jN (by assumption) ?_ | refine jM (by decide) ?_ | refine jN (by decide) ?_) | refine jF (ptr_ok tblOk rfl rfl) ?_ | refine jO (fun _ => by kernel_rfl) ?_ | refine jF (by decide) ?_)
    obtain ⟨y, z, hy, -, -⟩ := wInts_cut2 s
    have htl := wInts_tlen 2 s
    unfold wField tk
    simp only
    have hS : St w T0 (tgH cb (setL (cmdC (hdC 6 q) none 0) [2, 11] ((wInts 2 s).1.map intV)) T_api_Command rr rb (wInts 2 s).2) _ := hS
    rw [hy] at hS ⊢
    simp only at hS ⊢
    generalize (wInts 2 s).2 = s1 at hS htl ⊢
    have hS : St w T0 (tgH cb (cmdC { hdC 6 q with id := y, num := z } none 0) T_api_Command rr rb s1) _ := hS
    refine SemW.draw tblOk mixed (fun w' => St w T0 (tgH cb (cmdC { hdC 6 q with id := y, num := z } none 0) T_api_Command rr rb s1) w') [8] [0, 1, 2, 3, 4, 5, 6, 7, 8] (by kernel_rfl) hS.drew ?_
    have hS := hS.drew
    repeat (first | refine SemW.run tblOk ?_ | refine jA (by omega) ?_ | refine jB (by omega) ?_ | refine jC (by omega) ?_ | refine jD (by omega) ?_ | refine jE rfl ?_ | refine jF (by omega) ?_ | (refine jG ?_; first | with_reducible (first | refine jH ?_ | refine jI ?_ | refine jJ ?_ | refine jK ?_ | refine jL ?_) | refine jM (by omega) ?_ | refine jN (by omega) ?_ | with_reducible refine jM rfl ?_ | refine jM (by assumption) ?_ | refine jN (by assumption) ?_ | refine jM (by decide) ?_ | refine jN (by decide) ?_) | refine jF (ptr_ok tblOk rfl rfl) ?_ | refine jO (fun _ => by kernel_rfl) ?_ | refine jF (by decide) ?_ | refine hS.ldC rfl ?_ | refine hS.ldnC rfl ?_)
    refine InvG.mk ⟨f_wire_reader_letter, ptr rr, by kernel_rfl, ?_⟩
    refine Cl.mono (rletter_spec (b := cb) (s := s1) (o := 12) (hS.part (L := tgH cb (cmdC { hdC 6 q with id := y, num := z } none 0) T_api_Command rr rb s1)) (by omega) (by simp)) ?_
    rintro _ w4 hS'
    have hS := hS.call (L := tgH cb (cmdC { hdC 6 q with id := y, num := z } none 0) T_api_Command rr rb s1) hS'
    repeat (first | refine SemW.run tblOk ?_ | refine jA (by omega) ?_ | refine jB (by omega) ?_ | refine jC (by omega) ?_ | refine jD (by omega) ?_ | refine jE rfl ?_ | refine jF (by omega) ?_ | (refine jG ?_; first | with_reducible (first | refine jH ?_ | refine jI ?_ | refine jJ ?_ | refine jK ?_ | refine jL ?_) | refine jM (by omega) ?_ | refine jN (by omega) ?_ | with_reducible refine jM rfl ?_ | refine jM (by assumption) ?_ | refine jN (by assumption) ?_ | refine jM (by decide) ?_ | refine jN (by decide) ?_) | refine jF (ptr_ok tblOk rfl rfl) ?_ | refine jO (fun _ => by kernel_rfl) ?_ | refine jF (by decide) ?_)
    exact ⟨none, 0, [], Vec.nil, hS⟩
  rw [if_neg h6]
  by_cases h8 : k = 8
  · subst h8
    rw [if_pos rfl]
    repeat (first | refine SemW.run tblOk ?_ | refine jA (by omega) ?_ | refine jB (by omega) ?_ | refine jC (by omega) ?_ | refine jD (by omega) ?_ | refine jE rfl ?_ | refine jF (by omega) ?_ | (refine jG ?_; first | with_reducible (first | refine jH ?_ | refine jI ?_ | refine jJ ?_ | refine jK ?_ | refine jL ?_) | refine jM (by omega) ?_ | refine jN (by omega) ?_ | with_reducible refine jM rfl ?_ | refine jM (by assumption) ?_ | refine jN (by assumption) ?_ | refine jM (by decide) ?_ | refine jN (by decide) ?_) | refine jF (ptr_ok tblOk rfl rfl) ?_ | refine jO (fun _ => by kernel_rfl) ?_ | refine jF (by decide) ?_)
    refine SemW.draw tblOk mixed (fun w' => St w T0 (cmdH cb rr rb (hdC 8 q) none 0 s []) w') [11] [0, 1, 2, 3, 4, 5, 6, 8, 9, 10, 7, 11] (by kernel_rfl) hS.drew ?_
    have hS := hS.drew
    repeat (first | refine SemW.run tblOk ?_ | refine jA (by omega) ?_ | refine jB (by omega) ?_ | refine jC (by omega) ?_ | refine jD (by omega) ?_ | refine jE rfl ?_ | refine jF (by omega) ?_ | (refine jG ?_; first | with_reducible (first | refine jH ?_ | refine jI ?_ | refine jJ ?_ | refine jK ?_ | refine jL ?_) | refine jM (by omega) ?_ | refine jN (by omega) ?_ | with_reducible refine jM rfl ?_ | refine jM (by assumption) ?_ | refine jN (by assumption) ?_ | refine jM (by decide) ?_ | refine jN (by decide) ?_) | refine jF (ptr_ok tblOk rfl rfl) ?_ | refine jO (fun _ => by kernel_rfl) ?_ | refine jF (by decide) ?_ | refine hS.ldC rfl ?_ | refine hS.ldnC rfl ?_)
    refine hS.al ?_
    intro r w3 _ hS
    refine Chk.mk (hS.sub (List.sublist_cons_self _ _)) ?_
    repeat (first | refine SemW.run tblOk ?_ | refine jA (by omega) ?_ | refine jB (by omega) ?_ | refine jC (by omega) ?_ | refine jD (by omega) ?_ | refine jE rfl ?_ | refine jF (by omega) ?_ | (refine jG ?_; first | with_reducible (first | refine jH ?_ | refine jI ?_ | refine jJ ?_ | refine jK ?_ | refine jL ?_) | refine jM (by omega) ?_ | refine jN (by omega) ?_ | with_reducible refine jM rfl ?_ | refine jM (by assumption) ?_ | refine jN (by assumption) ?_ | refine jM (by decide) ?_ | refine jN (by decide) ?_) | refine jF (ptr_ok tblOk rfl rfl) ?_ | refine jO (fun _ => by kernel_rfl) ?_ | refine jF (by decide) ?_ | refine hS.ldC rfl ?_ | refine hS.ldnC rfl ?_)
    refine InvG.mk ⟨f_wire_reader_int, ptr rr, by kernel_rfl, ?_⟩
    refine Cl.mono (rint_spec (b := cb) (s := s) (hS.part (L := (cmdH cb rr rb (hdC 8 q) none 0 s []))) (by omega) (offs := [3, 4]) (hS.arr (b := r) (show r ∉ [cb, rr, rb] from nodup_chunk (L := (cmdH cb rr rb (hdC 8 q) none 0 s [])) hS)) (by simp) (by simp)) ?_
    rintro _ w4 hS'
    have hS := (hS.call (L := (cmdH cb rr rb (hdC 8 q) none 0 s [])) hS').sub (List.sublist_cons_self _ _)
    repeat (first | refine SemW.run tblOk ?_ | refine jA (by omega) ?_ | refine jB (by omega) ?_ | refine jC (by omega) ?_ | refine jD (by omega) ?_ | refine jE rfl ?_ | refine jF (by omega) ?_ | (refine jG ?_; first | with_reducible (first | refine jH ?_ | refine jI ?_ | refine jJ ?_ | refine jK ?_ | refine jL ?_) | refine jM (by omega) ?_ | refine jN (by omega) ?_ | with_reducible refine jM rfl ?_ | refine jM (by assumption) ?_ | refine jN (by assumption) ?_ | refine jM (by decide) ?_ | refine jN (by decide) ?_) | refine jF (ptr_ok tblOk rfl rfl) ?_ | refine jO (fun _ => by kernel_rfl) ?_ | refine jF (by decide) ?_)
    obtain ⟨y, z, hy, -, -⟩ := wInts_cut2 s
    unfold wField tk
    simp only
    have hS : St w T0 (tgH cb (setL (cmdC (hdC 8 q) none 0) [3, 4] ((wInts 2 s).1.map intV)) T_api_Command rr rb (wInts 2 s).2) _ := hS
    rw [hy] at hS ⊢
    exact ⟨none, 0, [], Vec.nil, hS⟩
  rw [if_neg h8]
  by_cases hf : k = 9 ∨ k = 10 ∨ k = 13 ∨ k = 14
  · rw [if_pos hf]
    unfold wField tk
    simp only
    obtain ⟨y, hy, -⟩ := wInts_cut1 s
    rcases hf with rfl | rfl | rfl | rfl
    · repeat (first | refine SemW.run tblOk ?_ | refine jA (by omega) ?_ | refine jB (by omega) ?_ | refine jC (by omega) ?_ | refine jD (by omega) ?_ | refine jE rfl ?_ | refine jF (by omega) ?_ | (refine jG ?_; first | with_reducible (first | refine jH ?_ | refine jI ?_ | refine jJ ?_ | refine jK ?_ | refine jL ?_) | refine jM (by omega) ?_ | refine jN (by omega) ?_ | with_reducible refine jM rfl ?_ | refine jM (by assumption) ?_ | refine jN (by assumption) ?_ | refine jM (by decide) ?_ | refine jN (by decide) ?_) | refine jF (ptr_ok tblOk rfl rfl) ?_ | refine jO (fun _ => by kernel_rfl) ?_ | refine jF (by decide) ?_)
      refine SemW.draw tblOk mixed (fun w' => St w T0 (cmdH cb rr rb (hdC 9 q) none 0 s []) w') [8] [0, 1, 2, 3, 5, 6, 7, 4, 8] (by kernel_rfl) hS.drew ?_
      have hS := hS.drew
      repeat (first | refine SemW.run tblOk ?_ | refine jA (by omega) ?_ | refine jB (by omega) ?_ | refine jC (by omega) ?_ | refine jD (by omega) ?_ | refine jE rfl ?_ | refine jF (by omega) ?_ | (refine jG ?_; first | with_reducible (first | refine jH ?_ | refine jI ?_ | refine jJ ?_ | refine jK ?_ | refine jL ?_) | refine jM (by omega) ?_ | refine jN (by omega) ?_ | with_reducible refine jM rfl ?_ | refine jM (by assumption) ?_ | refine jN (by assumption) ?_ | refine jM (by decide) ?_ | refine jN (by decide) ?_) | refine jF (ptr_ok tblOk rfl rfl) ?_ | refine jO (fun _ => by kernel_rfl) ?_ | refine jF (by decide) ?_ | refine hS.ldC rfl ?_ | refine hS.ldnC rfl ?_)
      refine hS.al ?_
      intro r w3 _ hS
      refine Chk.mk (hS.sub (List.sublist_cons_self _ _)) ?_
      repeat (first | refine SemW.run tblOk ?_ | refine jA (by omega) ?_ | refine jB (by omega) ?_ | refine jC (by omega) ?_ | refine jD (by omega) ?_ | refine jE rfl ?_ | refine jF (by omega) ?_ | (refine jG ?_; first | with_reducible (first | refine jH ?_ | refine jI ?_ | refine jJ ?_ | refine jK ?_ | refine jL ?_) | refine jM (by omega) ?_ | refine jN (by omega) ?_ | with_reducible refine jM rfl ?_ | refine jM (by assumption) ?_ | refine jN (by assumption) ?_ | refine jM (by decide) ?_ | refine jN (by decide) ?_) | refine jF (ptr_ok tblOk rfl rfl) ?_ | refine jO (fun _ => by kernel_rfl) ?_ | refine jF (by decide) ?_ | refine hS.ldC rfl ?_ | refine hS.ldnC rfl ?_)
      refine InvG.mk ⟨f_wire_reader_int, ptr rr, by kernel_rfl, ?_⟩
      refine Cl.mono (rint_spec (b := cb) (s := s) (hS.part (L := (cmdH cb rr rb (hdC 9 q) none 0 s []))) (by omega) (offs := [3]) (hS.arr (b := r) (show r ∉ [cb, rr, rb] from nodup_chunk (L := (cmdH cb rr rb (hdC 9 q) none 0 s [])) hS)) (by simp) (by simp)) ?_
      rintro _ w4 hS'
      have hS := (hS.call (L := (cmdH cb rr rb (hdC 9 q) none 0 s [])) hS').sub (List.sublist_cons_self _ _)
      repeat (first | refine SemW.run tblOk ?_ | refine jA (by omega) ?_ | refine jB (by omega) ?_ | refine jC (by omega) ?_ | refine jD (by omega) ?_ | refine jE rfl ?_ | refine jF (by omega) ?_ | (refine jG ?_; first | with_reducible (first | refine jH ?_ | refine jI ?_ | refine jJ ?_ | refine jK ?_ | refine jL ?_) | refine jM (by omega) ?_ | refine jN (by omega) ?_ | with_reducible refine jM rfl ?_ | refine jM (by assumption) ?_ | refine jN (by assumption) ?_ | refine jM (by decide) ?_ | refine jN (by decide) ?_) | refine jF (ptr_ok tblOk rfl rfl) ?_ | refine jO (fun _ => by kernel_rfl) ?_ | refine jF (by decide) ?_)
      have hS : St w T0 (tgH cb (setL (cmdC (hdC 9 q) none 0) [3] ((wInts 1 s).1.map intV)) T_api_Command rr rb (wInts 1 s).2) _ := hS
      rw [hy] at hS ⊢
      exact ⟨none, 0, [], Vec.nil, hS⟩
    · repeat (first | refine SemW.run tblOk ?_ | refine jA (by omega) ?_ | refine jB (by omega) ?_ | refine jC (by omega) ?_ | refine jD (by omega) ?_ | refine jE rfl ?_ | refine jF (by omega) ?_ | (refine jG ?_; first | with_reducible (first | refine jH ?_ | refine jI ?_ | refine jJ ?_ | refine jK ?_ | refine jL ?_) | refine jM (by omega) ?_ | refine jN (by omega) ?_ | with_reducible refine jM rfl ?_ | refine jM (by assumption) ?_ | refine jN (by assumption) ?_ | refine jM (by decide) ?_ | refine jN (by decide) ?_) | refine jF (ptr_ok tblOk rfl rfl) ?_ | refine jO (fun _ => by kernel_rfl) ?_ | refine jF (by decide) ?_)
      refine SemW.draw tblOk mixed (fun w' => St w T0 (cmdH cb rr rb (hdC 10 q) none 0 s []) w') [8] [0, 1, 2, 3, 5, 6, 7, 4, 8] (by kernel_rfl) hS.drew ?_
      have hS := hS.drew
      repeat (first | refine SemW.run tblOk ?_ | refine jA (by omega) ?_ | refine jB (by omega) ?_ | refine jC (by omega) ?_ | refine jD (by omega) ?_ | refine jE rfl ?_ | refine jF (by omega) ?_ | (refine jG ?_; first | with_reducible (first | refine jH ?_ | refine jI ?_ | refine jJ ?_ | refine jK ?_ | refine jL ?_) | refine jM (by omega) ?_ | refine jN (by omega) ?_ | with_reducible refine jM rfl ?_ | refine jM (by assumption) ?_ | refine jN (by assumption) ?_ | refine jM (by decide) ?_ | refine jN (by decide) ?_) | refine jF (ptr_ok tblOk rfl rfl) ?_ | refine jO (fun _ => by kernel_rfl) ?_ | refine jF (by decide) ?_ | refine hS.ldC rfl ?_ | refine hS.ldnC rfl ?_)
      refine hS.al ?_
      intro r w3 _ hS
      refine Chk.mk (hS.sub (List.sublist_cons_self _ _)) ?_
      repeat (first | refine SemW.run tblOk ?_ | refine jA (by omega) ?_ | refine jB (by omega) ?_ | refine jC (by omega) ?_ | refine jD (by omega) ?_ | refine jE rfl ?_ | refine jF (by omega) ?_ | (refine jG ?_; first | with_reducible (first | refine jH ?_ | refine jI ?_ | refine jJ ?_ | refine jK ?_ | refine jL ?_) | refine jM (by omega) ?_ | refine jN (by omega) ?_ | with_reducible refine jM rfl ?_ | refine jM (by assumption) ?_ | refine jN (by assumption) ?_ | refine jM (by decide) ?_ | refine jN (by decide) ?_) | refine jF (ptr_ok tblOk rfl rfl) ?_ | refine jO (fun _ => by kernel_rfl) ?_ | refine jF (by decide) ?_ | refine hS.ldC rfl ?_ | refine hS.ldnC rfl ?_)
      refine InvG.mk ⟨f_wire_reader_int, ptr rr, by kernel_rfl, ?_⟩
      refine Cl.mono (rint_spec (b := cb) (s := s) (hS.part (L := (cmdH cb rr rb (hdC 10 q) none 0 s []))) (by omega) (offs := [3]) (hS.arr (b := r) (show r ∉ [cb, rr, rb] from nodup_chunk (L := (cmdH cb rr rb (hdC 10 q) none 0 s [])) hS)) (by simp) (by simp)) ?_
      rintro _ w4 hS'
      have hS := (hS.call (L := (cmdH cb rr rb (hdC 10 q) none 0 s [])) hS').sub (List.sublist_cons_self _ _)
      repeat (first | refine SemW.run tblOk ?_ | refine jA (by omega) ?_ | refine jB (by omega) ?_ | refine jC (by omega) ?_ | refine jD (by omega) ?_ | refine jE rfl ?_ | refine jF (by omega) ?_ | (refine jG ?_; first | with_reducible (first | refine jH ?_ | refine jI ?_ | refine jJ ?_ | refine jK ?_ | refine jL ?_) | refine jM (by omega) ?_ | refine jN (by omega) ?_ | with_reducible refine jM rfl ?_ | refine jM (by assumption) ?_ | refine jN (by assumption) ?_ | refine jM (by decide) ?_ | refine jN (by decide) ?_) | refine jF (ptr_ok tblOk rfl rfl) ?_ | refine jO (fun _ => by kernel_rfl) ?_ | refine jF (by decide) ?_)
      have hS : St w T0 (tgH cb (setL (cmdC (hdC 10 q) none 0) [3] ((wInts 1 s).1.map intV)) T_api_Command rr rb (wInts 1 s).2) _ := hS
      rw [hy] at hS ⊢
      exact ⟨none, 0, [], Vec.nil, hS⟩
    · repeat (first | refine SemW.run tblOk ?_ | refine jA (by omega) ?_ | refine jB (by omega) ?_ | refine jC (by omega) ?_ | refine jD (by omega) ?_ | refine jE rfl ?_ | refine jF (by omega) ?_ | (refine jG ?_; first | with_reducible (first | refine jH ?_ | refine jI ?_ | refine jJ ?_ | refine jK ?_ | refine jL ?_) | refine jM (by omega) ?_ | refine jN (by omega) ?_ | with_reducible refine jM rfl ?_ | refine jM (by assumption) ?_ | refine jN (by assumption) ?_ | refine jM (by decide) ?_ | refine jN (by decide) ?_) | refine jF (ptr_ok tblOk rfl rfl) ?_ | refine jO (fun _ => by kernel_rfl) ?_ | refine jF (by decide) ?_)
      refine SemW.draw tblOk mixed (fun w' => St w T0 (cmdH cb rr rb (hdC 13 q) none 0 s []) w') [8] [0, 1, 2, 3, 5, 6, 7, 4, 8] (by kernel_rfl) hS.drew ?_
      have hS := hS.drew
      repeat (first | refine SemW.run tblOk ?_ | refine jA (by omega) ?_ | refine jB (by omega) ?_ | refine jC (by omega) ?_ | refine jD (by omega) ?_ | refine jE rfl ?_ | refine jF (by omega) ?_ | (refine jG ?_; first | with_reducible (first | refine jH ?_ | refine jI ?_ | refine jJ ?_ | refine jK ?_ | refine jL ?_) | refine jM (by omega) ?_ | refine jN (by omega) ?_ | with_reducible refine jM rfl ?_ | refine jM (by assumption) ?_ | refine jN (by assumption) ?_ | refine jM (by decide) ?_ | refine jN (by decide) ?_) | refine jF (ptr_ok tblOk rfl rfl) ?_ | refine jO (fun _ => by kernel_rfl) ?_ | refine jF (by decide) ?_ | refine hS.ldC rfl ?_ | refine hS.ldnC rfl ?_)
      refine hS.al ?_
      intro r w3 _ hS
      refine Chk.mk (hS.sub (List.sublist_cons_self _ _)) ?_
      repeat (first | refine SemW.run tblOk ?_ | refine jA (by omega) ?_ | refine jB (by omega) ?_ | refine jC (by omega) ?_ | refine jD (by omega) ?_ | refine jE rfl ?_ | refine jF (by omega) ?_ | (refine jG ?_; first | with_reducible (first | refine jH ?_ | refine jI ?_ | refine jJ ?_ | refine jK ?_ | refine jL ?_) | refine jM (by omega) ?_ | refine jN (by omega) ?_ | with_reducible refine jM rfl ?_ | refine jM (by assumption) ?_ | refine jN (by assumption) ?_ | refine jM (by decide) ?_ | refine jN (by decide) ?_) | refine jF (ptr_ok tblOk rfl rfl) ?_ | refine jO (fun _ => by kernel_rfl) ?_ | refine jF (by decide) ?_ | refine hS.ldC rfl ?_ | refine hS.ldnC rfl ?_)
      refine InvG.mk ⟨f_wire_reader_int, ptr rr, by kernel_rfl, ?_⟩
      refine Cl.mono (rint_spec (b := cb) (s := s) (hS.part (L := (cmdH cb rr rb (hdC 13 q) none 0 s []))) (by omega) (offs := [3]) (hS.arr (b := r) (show r ∉ [cb, rr, rb] from nodup_chunk (L := (cmdH cb rr rb (hdC 13 q) none 0 s [])) hS)) (by simp) (by simp)) ?_
      rintro _ w4 hS'
      have hS := (hS.call (L := (cmdH cb rr rb (hdC 13 q) none 0 s [])) hS').sub (List.sublist_cons_self _ _)
      repeat (first | refine SemW.run tblOk ?_ | refine jA (by omega) ?_ | refine jB (by omega) ?_ | refine jC (by omega) ?_ | refine jD (by omega) ?_ | refine jE rfl ?_ | refine jF (by omega) ?_ | (refine jG ?_; first | with_reducible (first | refine jH ?_ | refine jI ?_ | refine jJ ?_ | refine jK ?_ | refine jL ?_) | refine jM (by omega) ?_ | refine jN (by omega) ?_ | with_reducible refine jM rfl ?_ | refine jM (by assumption) ?_ | refine jN (by assumption) ?_ | refine jM (by decide) ?_ | refine jN (by decide) ?_) | refine jF (ptr_ok tblOk rfl rfl) ?_ | refine jO (fun _ => by kernel_rfl) ?_ | refine jF (by decide) ?_)
      have hS : St w T0 (tgH cb (setL (cmdC (hdC 13 q) none 0) [3] ((wInts 1 s).1.map intV)) T_api_Command rr rb (wInts 1 s).2) _ := hS
      rw [hy] at hS ⊢
      exact ⟨none, 0, [], Vec.nil, hS⟩
    · repeat (first | refine SemW.run tblOk ?_ | refine jA (by omega) ?_ | refine jB (by omega) ?_ | refine jC (by omega) ?_ | refine jD (by omega) ?_ | refine jE rfl ?_ | refine jF (by omega) ?_ | (refine jG ?_; first | with_reducible (first | refine jH ?_ | refine jI ?_ | refine jJ ?_ | refine jK ?_ | refine jL ?_) | refine jM (by omega) ?_ | refine jN (by omega) ?_ | with_reducible refine jM rfl ?_ | refine jM (by assumption) ?_ | refine jN (by assumption) ?_ | refine jM (by decide) ?_ | refine jN (by decide) ?_) | refine jF (ptr_ok tblOk rfl rfl) ?_ | refine jO (fun _ => by kernel_rfl) ?_ | refine jF (by decide) ?_)
      refine SemW.draw tblOk mixed (fun w' => St w T0 (cmdH cb rr rb (hdC 14 q) none 0 s []) w') [8] [0, 1, 2, 3, 5, 6, 7, 4, 8] (by kernel_rfl) hS.drew ?_
      have hS := hS.drew
      repeat (first | refine SemW.run tblOk ?_ | refine jA (by omega) ?_ | refine jB (by omega) ?_ | refine jC (by omega) ?_ | refine jD (by omega) ?_ | refine jE rfl ?_ | refine jF (by omega) ?_ | (refine jG ?_; first | with_reducible (first | refine jH ?_ | refine jI ?_ | refine jJ ?_ | refine jK ?_ | refine jL ?_) | refine jM (by omega) ?_ | refine jN (by omega) ?_ | with_reducible refine jM rfl ?_ | refine jM (by assumption) ?_ | refine jN (by assumption) ?_ | refine jM (by decide) ?_ | refine jN (by decide) ?_) | refine jF (ptr_ok tblOk rfl rfl) ?_ | refine jO (fun _ => by kernel_rfl) ?_ | refine jF (by decide) ?_ | refine hS.ldC rfl ?_ | refine hS.ldnC rfl ?_)
      refine hS.al ?_
      intro r w3 _ hS
      refine Chk.mk (hS.sub (List.sublist_cons_self _ _)) ?_
      repeat (first | refine SemW.run tblOk ?_ | refine jA (by omega) ?_ | refine jB (by omega) ?_ | refine jC (by omega) ?_ | refine jD (by omega) ?_ | refine jE rfl ?_ | refine jF (by omega) ?_ | (refine jG ?_; first | with_reducible (first | refine jH ?_ | refine jI ?_ | refine jJ ?_ | refine jK ?_ | refine jL ?_) | refine jM (by omega) ?_ | refine jN (by omega) ?_ | with_reducible refine jM rfl ?_ | refine jM (by assumption) ?_ | refine jN (by assumption) ?_ | refine jM (by decide) ?_ | refine jN (by decide) ?_) | refine jF (ptr_ok tblOk rfl rfl) ?_ | refine jO (fun _ => by kernel_rfl) ?_ | refine jF (by decide) ?_ | refine hS.ldC rfl ?_ | refine hS.ldnC rfl ?_)
      refine InvG.mk ⟨f_wire_reader_int, ptr rr, by kernel_rfl, ?_⟩
      refine Cl.mono (rint_spec (b := cb) (s := s) (hS.part (L := (cmdH cb rr rb (hdC 14 q) none 0 s []))) (by omega) (offs := [3]) (hS.arr (b := r) (show r ∉ [cb, rr, rb] from nodup_chunk (L := (cmdH cb rr rb (hdC 14 q) none 0 s [])) hS)) (by simp) (by simp)) ?_
      rintro _ w4 hS'
      have hS := (hS.call (L := (cmdH cb rr rb (hdC 14 q) none 0 s [])) hS').sub (List.sublist_cons_self _ _)
      repeat (first | refine SemW.run tblOk ?_ | refine jA (by omega) ?_ | refine jB (by omega) ?_ | refine jC (by omega) ?_ | refine jD (by omega) ?_ | refine jE rfl ?_ | refine jF (by omega) ?_ | (refine jG ?_; first | with_reducible (first | refine jH ?_ | refine jI ?_ | refine jJ ?_ | refine jK ?_ | refine jL ?_) | refine jM (by omega) ?_ | refine jN (by omega) ?_ | with_reducible refine jM rfl ?_ | refine jM (by assumption) ?_ | refine jN (by assumption) ?_ | refine jM (by decide) ?_ | refine jN (by decide) ?_) | refine jF (ptr_ok tblOk rfl rfl) ?_ | refine jO (fun _ => by kernel_rfl) ?_ | refine jF (by decide) ?_)
      have hS : St w T0 (tgH cb (setL (cmdC (hdC 14 q) none 0) [3] ((wInts 1 s).1.map intV)) T_api_Command rr rb (wInts 1 s).2) _ := hS
      rw [hy] at hS ⊢
      exact ⟨none, 0, [], Vec.nil, hS⟩
  rw [if_neg hf]
  have hf9 : ¬ k = 9 := fun h => hf (.inl h)
  have hf10 : ¬ k = 10 := fun h => hf (.inr (.inl h))
  have hf13 : ¬ k = 13 := fun h => hf (.inr (.inr (.inl h)))
  have hf14 : ¬ k = 14 := fun h => hf (.inr (.inr (.inr h)))
  by_cases h12 : k = 12
  · subst h12
    rw [if_pos rfl]
    unfold wField tk
    simp only
    repeat (first | refine SemW.run tblOk ?_ | refine jA (by omega) ?_ | refine jB (by omega) ?_ | refine jC (by omega) ?_ | refine jD (by omega) ?_ | refine jE rfl ?_ | refine jF (by omega) ?_ | (refine jG ?_; first | with_reducible (first | refine jH ?_ | refine jI ?_ | refine jJ ?_ | refine jK ?_ | refine jL ?_) | refine jM (by omega) ?_ | refine jN (by omega) ?_ | with_reducible refine jM rfl ?_ | refine jM (by assumption) ?_ | refine jN (by assumption) ?_ | refine jM (by decide) ?_ | refine jN (by decide) ?_) | refine jF (ptr_ok tblOk rfl rfl) ?_ | refine jO (fun _ => by kernel_rfl) ?_ | refine jF (by decide) ?_)
    refine SemW.draw tblOk mixed (fun w' => St w T0 (cmdH cb rr rb (hdC 12 q) none 0 s []) w') [7] [0, 1, 2, 3, 4, 5, 6, 7] (by kernel_rfl) hS.drew ?_
    have hS := hS.drew
    repeat (first | refine SemW.run tblOk ?_ | refine jA (by omega) ?_ | refine jB (by omega) ?_ | refine jC (by omega) ?_ | refine jD (by omega) ?_ | refine jE rfl ?_ | refine jF (by omega) ?_ | (refine jG ?_; first | with_reducible (first | refine jH ?_ | refine jI ?_ | refine jJ ?_ | refine jK ?_ | refine jL ?_) | refine jM (by omega) ?_ | refine jN (by omega) ?_ | with_reducible refine jM rfl ?_ | refine jM (by assumption) ?_ | refine jN (by assumption) ?_ | refine jM (by decide) ?_ | refine jN (by decide) ?_) | refine jF (ptr_ok tblOk rfl rfl) ?_ | refine jO (fun _ => by kernel_rfl) ?_ | refine jF (by decide) ?_ | refine hS.ldC rfl ?_ | refine hS.ldnC rfl ?_)
    refine InvG.mk ⟨f_wire_reader_text, ptr rr, by kernel_rfl, ?_⟩
    refine Cl.mono (rtext_spec (b := cb) (s := s) (o := 18) (hS.part (L := cmdH cb rr rb (hdC 12 q) none 0 s [])) (by omega) (by simp)) ?_
    rintro _ w4 hS'
    have hS := hS.call (L := cmdH cb rr rb (hdC 12 q) none 0 s []) hS'
    repeat (first | refine SemW.run tblOk ?_ | refine jA (by omega) ?_ | refine jB (by omega) ?_ | refine jC (by omega) ?_ | refine jD (by omega) ?_ | refine jE rfl ?_ | refine jF (by omega) ?_ | (refine jG ?_; first | with_reducible (first | refine jH ?_ | refine jI ?_ | refine jJ ?_ | refine jK ?_ | refine jL ?_) | refine jM (by omega) ?_ | refine jN (by omega) ?_ | with_reducible refine jM rfl ?_ | refine jM (by assumption) ?_ | refine jN (by assumption) ?_ | refine jM (by decide) ?_ | refine jN (by decide) ?_) | refine jF (ptr_ok tblOk rfl rfl) ?_ | refine jO (fun _ => by kernel_rfl) ?_ | refine jF (by decide) ?_)
    exact ⟨none, 0, [], Vec.nil, hS⟩
  · rw [if_neg h12]
    unfold wField tk
    simp only
    obtain ⟨y, hy, -⟩ := wInts_cut1 s
    repeat (first | refine SemW.run tblOk ?_ | refine jA (by omega) ?_ | refine jB (by omega) ?_ | refine jC (by omega) ?_ | refine jD (by omega) ?_ | refine jE rfl ?_ | refine jF (by omega) ?_ | (refine jG ?_; first | with_reducible (first | refine jH ?_ | refine jI ?_ | refine jJ ?_ | refine jK ?_ | refine jL ?_) | refine jM (by omega) ?_ | refine jN (by omega) ?_ | with_reducible refine jM rfl ?_ | refine jM (by assumption) ?_ | refine jN (by assumption) ?_ | refine jM (by decide) ?_ | refine jN (by decide) ?_) | refine jF (ptr_ok tblOk rfl rfl) ?_ | refine jO (fun _ => by kernel_rfl) ?_ | refine jF (by decide) ?_)
    refine SemW.draw tblOk mixed (fun w' => St w T0 (cmdH cb rr rb (hdC k q) none 0 s []) w') [8] [0, 1, 2, 3, 5, 6, 7, 4, 8] (by kernel_rfl) hS.drew ?_
    have hS := hS.drew
    repeat (first | refine SemW.run tblOk ?_ | refine jA (by omega) ?_ | refine jB (by omega) ?_ | refine jC (by omega) ?_ | refine jD (by omega) ?_ | refine jE rfl ?_ | refine jF (by omega) ?_ | (refine jG ?_; first | with_reducible (first | refine jH ?_ | refine jI ?_ | refine jJ ?_ | refine jK ?_ | refine jL ?_) | refine jM (by omega) ?_ | refine jN (by omega) ?_ | with_reducible refine jM rfl ?_ | refine jM (by assumption) ?_ | refine jN (by assumption) ?_ | refine jM (by decide) ?_ | refine jN (by decide) ?_) | refine jF (ptr_ok tblOk rfl rfl) ?_ | refine jO (fun _ => by kernel_rfl) ?_ | refine jF (by decide) ?_ | refine hS.ldC rfl ?_ | refine hS.ldnC rfl ?_)
    refine hS.al ?_
    intro r w3 _ hS
    refine Chk.mk (hS.sub (List.sublist_cons_self _ _)) ?_
    repeat (first | refine SemW.run tblOk ?_ | refine jA (by omega) ?_ | refine jB (by omega) ?_ | refine jC (by omega) ?_ | refine jD (by omega) ?_ | refine jE rfl ?_ | refine jF (by omega) ?_ | (refine jG ?_; first | with_reducible (first | refine jH ?_ | refine jI ?_ | refine jJ ?_ | refine jK ?_ | refine jL ?_) | refine jM (by omega) ?_ | refine jN (by omega) ?_ | with_reducible refine jM rfl ?_ | refine jM (by assumption) ?_ | refine jN (by assumption) ?_ | refine jM (by decide) ?_ | refine jN (by decide) ?_) | refine jF (ptr_ok tblOk rfl rfl) ?_ | refine jO (fun _ => by kernel_rfl) ?_ | refine jF (by decide) ?_ | refine hS.ldC rfl ?_ | refine hS.ldnC rfl ?_)
    refine InvG.mk ⟨f_wire_reader_int, ptr rr, by kernel_rfl, ?_⟩
    refine Cl.mono (rint_spec (b := cb) (s := s) (hS.part (L := (cmdH cb rr rb (hdC k q) none 0 s []))) (by omega) (offs := [2]) (hS.arr (b := r) (show r ∉ [cb, rr, rb] from nodup_chunk (L := (cmdH cb rr rb (hdC k q) none 0 s [])) hS)) (by simp) (by simp)) ?_
    rintro _ w4 hS'
    have hS := (hS.call (L := (cmdH cb rr rb (hdC k q) none 0 s [])) hS').sub (List.sublist_cons_self _ _)
    repeat (first | refine SemW.run tblOk ?_ | refine jA (by omega) ?_ | refine jB (by omega) ?_ | refine jC (by omega) ?_ | refine jD (by omega) ?_ | refine jE rfl ?_ | refine jF (by omega) ?_ | (refine jG ?_; first | with_reducible (first | refine jH ?_ | refine jI ?_ | refine jJ ?_ | refine jK ?_ | refine jL ?_) | refine jM (by omega) ?_ | refine jN (by omega) ?_ | with_reducible refine jM rfl ?_ | refine jM (by assumption) ?_ | refine jN (by assumption) ?_ | refine jM (by decide) ?_ | refine jN (by decide) ?_) | refine jF (ptr_ok tblOk rfl rfl) ?_ | refine jO (fun _ => by kernel_rfl) ?_ | refine jF (by decide) ?_)
    have hS : St w T0 (tgH cb (setL (cmdC (hdC k q) none 0) [2] ((wInts 1 s).1.map intV)) T_api_Command rr rb (wInts 1 s).2) _ := hS
    rw [hy] at hS ⊢
    exact ⟨none, 0, [], Vec.nil, hS⟩
end Go.Proofs.YthpmmfapolcaiaaDoor
