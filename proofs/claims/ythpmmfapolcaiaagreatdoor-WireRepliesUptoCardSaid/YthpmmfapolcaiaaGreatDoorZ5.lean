/- Texts of this claim, one behind the other. -/
import Derived.Test.YthpmmfapolcaiaaGreatDoorZ4
import Derived.Test.YthpmmfapolcaiaaGreatDoorZ3
import Derived.ChangeKeysEq
import Derived.Test.YthpmmfapolcaiaaGreatDoorZ0
import Derived.Lib.SliceRun
import Derived.Test.YthpmmfapolcaiaaGreatDoorZ2
import Derived.Lib.UnsafeStr
import Derived.Lib.Builder
/- Package wire: a command's fields, read. -/
namespace Go.Proofs.YthpmmfapolcaiaaGreatDoor
open Go Go.Eng Go.Proofs
theorem wInts_cut1 (s : RB) : ∃ z, wInts 1 s = ([z], (wInts 1 s).2) ∧ i64ok z := ⟨_, rfl, rbInt_ok' s⟩
theorem wInts_cut2 (s : RB) : ∃ y z, wInts 2 s = ([y, z], (wInts 2 s).2) ∧ i64ok y ∧ i64ok z := ⟨_, _, rfl, rbInt_ok' _, rbInt_ok' _⟩
theorem wInts_cut4 (s : RB) : ∃ x y z u, wInts 4 s = ([x, y, z, u], (wInts 4 s).2) := ⟨_, _, _, _, rfl⟩
theorem wMarks_cut4 (s : RB) : ∃ x y z u, wMarks 4 s = ([x, y, z, u], (wMarks 4 s).2) := ⟨_, _, _, _, rfl⟩
theorem setL_app (P : List Value) : ∀ (os : List Nat) (vs Q : List Value), setL (P ++ Q) (os.map fun o => P.length + o) vs = P ++ setL Q os vs
  | [], vs, Q => by cases vs <;> simp [setL]
  | o :: os, [], Q => by simp [setL]
  | o :: os, v :: vs, Q => by
    rw [List.map_cons]
    unfold setL
    rw [List.set_append_right _ _ (by omega), Nat.add_sub_cancel_left]
    exact setL_app P os vs _
/-- The memory of a command that is read: its cells, the reader's, its rows. -/
abbrev cmdH (cb rr rb : Nat) (c : CmdM) (a : Option Addr) (cap : Nat) (s : RB) (Lv : Heap) : Heap := (cb, .cells ⟨cmdC c a cap⟩ T_api_Command (0, 0)) :: (rr, wrdC rb s.bad) :: (rb, rdC s.t) :: Lv
theorem wInts_cut3 (s : RB) : ∃ x y z, wInts 3 s = ([x, y, z], (wInts 3 s).2) := ⟨_, _, _, rfl⟩
theorem wMarks_cut1 (s : RB) : ∃ x, wMarks 1 s = ([x], (wMarks 1 s).2) := ⟨_, rfl⟩
theorem wMarks_tlen (k : Nat) (s : RB) : (wMarks k s).2.t.length ≤ s.t.length := wNum_tlen _ s
theorem wNum_le (most : Nat) (s : RB) : (wNum most s).1 ≤ most := by
  unfold wNum
  split
  · exact Nat.zero_le _
  · next h => exact Nat.le_of_not_lt (not_or.1 h).2
structure CI where
  l : List RowM
  s : RB
  a : Option Addr
  cap : Nat
def zRow : RowM := ⟨0, 0, 0, false, []⟩
theorem wRows_next {n : Nat} {l : List RowM} {s s' : RB} {row : RowM} {X : List RowM × RB} (hr : wRow s = (row, s')) (hl : l.length < n) (hx : (l ++ (wRows (n - l.length) s).1, (wRows (n - l.length) s).2) = X) :
    ((l ++ [row]) ++ (wRows (n - (l ++ [row]).length) s').1, (wRows (n - (l ++ [row]).length) s').2) = X := by
  rw [show n - l.length = (n - (l ++ [row]).length) + 1 by simp; omega] at hx
  unfold wRows at hx
  rw [hr] at hx
  rw [← hx]
  simp
abbrev rowH (cb g rr rb : Nat) (q z0 : Int) (n c2 : Nat) (buf : List Value) (s : RB) : Heap := (cb, .cells ⟨[.int .i64 1, .int .i64 q, .int .i64 z0, .int .i64 0, .int .i64 0, .int .i64 0, .int .i64 0, .bool false, .bool false, .bool false, .bool false, .int .i64 0, .int .u8 0, .slice (some ⟨g, 0, none⟩) n c2, .int .i64 0, .int .i64 0, .int .i64 0, .int .i64 0, Str []]⟩ T_api_Command (0, 0)) :: tgH g buf T_api_Row rr rb s
theorem vec_row {l : List RowM} {row : RowM} {g c2 : Nat} {fill : List Value} (hfl : l.length * 5 + 5 + fill.length = c2 * 5) (hcap : l.length + 1 ≤ c2) : Vec T_api_Row 5 (some ⟨g, 0, none⟩) (l ++ [row]).length c2 ((l ++ [row]).flatMap rowC) [(g, .cells ⟨l.flatMap rowC ++ (rowC row ++ fill)⟩ T_api_Row (0, 0))] := by
  have e9 : l.flatMap rowC ++ (rowC row ++ fill) = (l ++ [row]).flatMap rowC ++ fill := by simp
  have hl := flatRow_len (l ++ [row])
  rw [e9]
  refine Vec.row g _ c2 _ fill hl ?_ (by simpa using hcap)
  rw [hl, List.length_append, List.length_singleton]; omega
set_option maxRecDepth 4000 in
set_option maxHeartbeats 8000000 in
theorem command_rd {w : World} {cb rr rb : Nat} {k q : Int} {s : RB} (hh : Holds (cmdH cb rr rb (hdC k q) none 0 s []) w) (ht : s.t.length ≤ 1048576) :
    Cl Tryz.prog f_wire_command [.iface T_Ptr_wire_reader (ptr rr), ptr cb] w fun _ w' => ∃ a cap Lv, Vec T_api_Row 5 a (wField (ckOf k) k q s).1.rows.length cap ((wField (ckOf k) k q s).1.rows.flatMap rowC) Lv ∧ St w [cb, rr, rb] (cmdH cb rr rb (wField (ckOf k) k q s).1 a cap (wField (ckOf k) k q s).2 Lv) w' := by
  have hS : St w [cb, rr, rb] (cmdH cb rr rb (hdC k q) none 0 s []) w := St.enter hh
  obtain ⟨T0, hT⟩ : ∃ T0, T0 = [cb, rr, rb] := ⟨_, rfl⟩
  rw [← hT] at hS ⊢
  refine en_wire_command rfl ?_
  repeat (first | refine SemW.run tblOk ?_ | refine jA (by omega) ?_ | refine jB (by omega) ?_ | refine jC (by omega) ?_ | refine jD (by omega) ?_ | refine jE rfl ?_ | refine jF (by omega) ?_ | (refine jG ?_; first | with_reducible (first | refine jH ?_ | refine jI ?_ | refine jJ ?_ | refine jK ?_ | refine jL ?_) | refine jM (by omega) ?_ | refine jN (by omega) ?_ | with_reducible refine jM rfl ?_ | refine jM (by assumption) ?_ | refine jN (by assumption) ?_ | refine jM (by decide) ?_ | refine jN (by decide) ?_) | refine jF (ptr_ok tblOk rfl rfl) ?_ | refine jO (fun _ => by kernel_rfl) ?_ | refine jF (by decide) ?_ | refine hS.ld rfl ?_ | refine hS.ldn rfl ?_ | (refine hS.st rfl rfl ?_; intro _ hS))
  unfold ckOf
  by_cases h1 : k = 1
  · subst h1
    rw [if_pos rfl]
    repeat (first | refine SemW.run tblOk ?_ | refine jA (by omega) ?_ | refine jB (by omega) ?_ | refine jC (by omega) ?_ | refine jD (by omega) ?_ | refine jE rfl ?_ | refine jF (by omega) ?_ | (refine jG ?_; first | with_reducible (first | refine jH ?_ | refine jI ?_ | refine jJ ?_ | refine jK ?_ | refine jL ?_) | refine jM (by omega) ?_ | refine jN (by omega) ?_ | with_reducible refine jM rfl ?_ | refine jM (by assumption) ?_ | refine jN (by assumption) ?_ | refine jM (by decide) ?_ | refine jN (by decide) ?_) | refine jF (ptr_ok tblOk rfl rfl) ?_ | refine jO (fun _ => by kernel_rfl) ?_ | refine jF (by decide) ?_)
    refine SemW.draw tblOk mixed (fun w' => St w T0 (cmdH cb rr rb (hdC 1 q) none 0 s []) w') [8] [0, 1, 2, 3, 5, 6, 7, 4, 8] (by kernel_rfl) hS.drew ?_
    have hS := hS.drew
    repeat (first | refine SemW.run tblOk ?_ | refine jA (by omega) ?_ | refine jB (by omega) ?_ | refine jC (by omega) ?_ | refine jD (by omega) ?_ | refine jE rfl ?_ | refine jF (by omega) ?_ | (refine jG ?_; first | with_reducible (first | refine jH ?_ | refine jI ?_ | refine jJ ?_ | refine jK ?_ | refine jL ?_) | refine jM (by omega) ?_ | refine jN (by omega) ?_ | with_reducible refine jM rfl ?_ | refine jM (by assumption) ?_ | refine jN (by assumption) ?_ | refine jM (by decide) ?_ | refine jN (by decide) ?_) | refine jF (ptr_ok tblOk rfl rfl) ?_ | refine jO (fun _ => by kernel_rfl) ?_ | refine jF (by decide) ?_ | refine hS.ldC rfl ?_ | refine hS.ldnC rfl ?_)
    refine hS.al ?_
    intro r w3 _ hS
    refine Chk.mk (hS.sub (List.sublist_cons_self _ _)) ?_
    repeat (first | refine SemW.run tblOk ?_ | refine jA (by omega) ?_ | refine jB (by omega) ?_ | refine jC (by omega) ?_ | refine jD (by omega) ?_ | refine jE rfl ?_ | refine jF (by omega) ?_ | (refine jG ?_; first | with_reducible (first | refine jH ?_ | refine jI ?_ | refine jJ ?_ | refine jK ?_ | refine jL ?_) | refine jM (by omega) ?_ | refine jN (by omega) ?_ | with_reducible refine jM rfl ?_ | refine jM (by assumption) ?_ | refine jN (by assumption) ?_ | refine jM (by decide) ?_ | refine jN (by decide) ?_) | refine jF (ptr_ok tblOk rfl rfl) ?_ | refine jO (fun _ => by kernel_rfl) ?_ | refine jF (by decide) ?_ | refine hS.ldC rfl ?_ | refine hS.ldnC rfl ?_)
    refine InvG.mk ⟨f_wire_reader_int, ptr rr, by kernel_rfl, ?_⟩
    refine Cl.mono (rint_spec (b := cb) (s := s) (hS.part (L := (cmdH cb rr rb (hdC 1 q) none 0 s []))) (by omega) (offs := [2]) (hS.arr (b := r) (show r ∉ [cb, rr, rb] from nodup_chunk (L := (cmdH cb rr rb (hdC 1 q) none 0 s [])) hS)) (by simp) (by simp)) ?_
    rintro _ w4 hS'
    have hS := (hS.call (L := (cmdH cb rr rb (hdC 1 q) none 0 s [])) hS').sub (List.sublist_cons_self _ _)
    repeat (first | refine SemW.run tblOk ?_ | refine jA (by omega) ?_ | refine jB (by omega) ?_ | refine jC (by omega) ?_ | refine jD (by omega) ?_ | refine jE rfl ?_ | refine jF (by omega) ?_ | (refine jG ?_; first | with_reducible (first | refine jH ?_ | refine jI ?_ | refine jJ ?_ | refine jK ?_ | refine jL ?_) | refine jM (by omega) ?_ | refine jN (by omega) ?_ | with_reducible refine jM rfl ?_ | refine jM (by assumption) ?_ | refine jN (by assumption) ?_ | refine jM (by decide) ?_ | refine jN (by decide) ?_) | refine jF (ptr_ok tblOk rfl rfl) ?_ | refine jO (fun _ => by kernel_rfl) ?_ | refine jF (by decide) ?_)
    obtain ⟨z0, hy, -⟩ := wInts_cut1 s
    have htl := wInts_tlen 1 s
    unfold wField tk
    simp only
    have hS : St w T0 (tgH cb (setL (cmdC (hdC 1 q) none 0) [2] ((wInts 1 s).1.map intV)) T_api_Command rr rb (wInts 1 s).2) _ := hS
    rw [hy] at hS ⊢
    simp only at hS ⊢
    generalize (wInts 1 s).2 = s1 at hS htl ⊢
    have hS : St w T0 (cmdH cb rr rb { hdC 1 q with id := z0 } none 0 s1 []) _ := hS
    refine SemW.draw tblOk mixed (fun w' => St w T0 (cmdH cb rr rb { hdC 1 q with id := z0 } none 0 s1 []) w') [9, 10] [0, 1, 2, 3, 4, 5, 6, 7, 8, 9, 10] (by kernel_rfl) hS.drew ?_
    have hS := hS.drew
    repeat (first | refine SemW.run tblOk ?_ | refine jA (by omega) ?_ | refine jB (by omega) ?_ | refine jC (by omega) ?_ | refine jD (by omega) ?_ | refine jE rfl ?_ | refine jF (by omega) ?_ | (refine jG ?_; first | with_reducible (first | refine jH ?_ | refine jI ?_ | refine jJ ?_ | refine jK ?_ | refine jL ?_) | refine jM (by omega) ?_ | refine jN (by omega) ?_ | with_reducible refine jM rfl ?_ | refine jM (by assumption) ?_ | refine jN (by assumption) ?_ | refine jM (by decide) ?_ | refine jN (by decide) ?_) | refine jF (ptr_ok tblOk rfl rfl) ?_ | refine jO (fun _ => by kernel_rfl) ?_ | refine jF (by decide) ?_ | refine hS.ldC rfl ?_ | refine hS.ldnC rfl ?_)
    refine InvG.mk ⟨f_wire_reader_count, ptr rr, by kernel_rfl, ?_⟩
    refine Cl.mono (rcount_spec (s := s1) (hS.part (L := rdH rr rb s1)) (by omega) _) ?_
    rintro _ w5 ⟨rfl, hS'⟩
    have hS := hS.call (L := rdH rr rb s1) hS'
    have hn := wNum_le s1.t.length s1
    have htl2 := wNum_tlen s1.t.length s1
    generalize wNum s1.t.length s1 = y at hS hn htl2 ⊢
    obtain ⟨n, s2⟩ := y
    simp only at hS hn htl2 ⊢
    have hS : St w T0 (cmdH cb rr rb { hdC 1 q with id := z0, rows := [] } none 0 s2 []) w5 := hS
    repeat (first | refine SemW.run tblOk ?_ | refine jA (by omega) ?_ | refine jB (by omega) ?_ | refine jC (by omega) ?_ | refine jD (by omega) ?_ | refine jE rfl ?_ | refine jF (by omega) ?_ | (refine jG ?_; first | with_reducible (first | refine jH ?_ | refine jI ?_ | refine jJ ?_ | refine jK ?_ | refine jL ?_) | refine jM (by omega) ?_ | refine jN (by omega) ?_ | with_reducible refine jM rfl ?_ | refine jM (by assumption) ?_ | refine jN (by assumption) ?_ | refine jM (by decide) ?_ | refine jN (by decide) ?_) | refine jF (ptr_ok tblOk rfl rfl) ?_ | refine jO (fun _ => by kernel_rfl) ?_ | refine jF (by decide) ?_)
    refine SemW.loop (fun z : CI => [(0, .iface T_Ptr_wire_reader (ptr rr)), (1, ptr cb), (42, .int .i64 n), (43, .int .i64 z.l.length)])
      (fun z w' => (z.l.length ≤ n ∧ (z.l ++ (wRows (n - z.l.length) z.s).1, (wRows (n - z.l.length) z.s).2) = wRows n s2 ∧ z.s.t.length ≤ s2.t.length) ∧ ∃ Lv, Vec T_api_Row 5 z.a z.l.length z.cap (z.l.flatMap rowC) Lv ∧ St w T0 (cmdH cb rr rb { hdC 1 q with id := z0, rows := z.l } z.a z.cap z.s Lv) w') (fun z => n - z.l.length) ⟨[], s2, none, 0⟩
      ⟨rfl, rfl, rfl, rfl, trivial⟩ ⟨⟨Nat.zero_le _, rfl, Nat.le_refl _⟩, [], Vec.nil, hS⟩ ?_
    clear hS hS'
    rintro ⟨l, s3, a, cap⟩ w6 ⟨⟨hln, hx, hst⟩, Lv, hv, hS⟩
    simp only at hln hx hst hv hS ⊢
    by_cases hlt : l.length < n
    · have hPl := flatRow_len l
      have hS : St w T0 ((cb, .cells ⟨[.int .i64 1, .int .i64 q, .int .i64 z0, .int .i64 0, .int .i64 0, .int .i64 0, .int .i64 0, .bool false, .bool false, .bool false, .bool false, .int .i64 0, .int .u8 0, .slice a l.length cap, .int .i64 0, .int .i64 0, .int .i64 0, .int .i64 0, Str []]⟩ T_api_Command (0, 0)) :: (rr, wrdC rb s3.bad) :: (rb, rdC s3.t) :: Lv) w6 := hS
      repeat (first | refine SemW.run tblOk ?_ | refine jA (by omega) ?_ | refine jB (by omega) ?_ | refine jC (by omega) ?_ | refine jD (by omega) ?_ | refine jE rfl ?_ | refine jF (by omega) ?_ | (refine jG ?_; first | with_reducible (first | refine jH ?_ | refine jI ?_ | refine jJ ?_ | refine jK ?_ | refine jL ?_) | refine jM (by omega) ?_ | refine jN (by omega) ?_ | with_reducible refine jM rfl ?_ | refine jM (by assumption) ?_ | refine jN (by assumption) ?_ | refine jM (by decide) ?_ | refine jN (by decide) ?_) | refine jF (ptr_ok tblOk rfl rfl) ?_ | refine jO (fun _ => by kernel_rfl) ?_ | refine jF (by decide) ?_ | refine hS.ld rfl ?_ | refine hS.ldn rfl ?_ | (refine hS.st rfl rfl ?_; intro _ hS))
      refine hS.al ?_
      intro r w7 _ hS
      repeat (first | refine SemW.run tblOk ?_ | refine jA (by omega) ?_ | refine jB (by omega) ?_ | refine jC (by omega) ?_ | refine jD (by omega) ?_ | refine jE rfl ?_ | refine jF (by omega) ?_ | (refine jG ?_; first | with_reducible (first | refine jH ?_ | refine jI ?_ | refine jJ ?_ | refine jK ?_ | refine jL ?_) | refine jM (by omega) ?_ | refine jN (by omega) ?_ | with_reducible refine jM rfl ?_ | refine jM (by assumption) ?_ | refine jN (by assumption) ?_ | refine jM (by decide) ?_ | refine jN (by decide) ?_) | refine jF (ptr_ok tblOk rfl rfl) ?_ | refine jO (fun _ => by kernel_rfl) ?_ | refine jF (by decide) ?_ | refine hS.ld rfl ?_ | refine hS.ldn rfl ?_ | (refine hS.st rfl rfl ?_; intro _ hS))
      refine St.app (sz := 5) (m := 1) tblOk rfl rfl rfl rfl hS hv (news := rowC zRow) rfl (by have := hS.arr (b := r) (T' := []) (by simp); exact this) rfl (by show (_ + _) * 48 ≤ _; omega) (by omega) ?_
      intro a2 c2 L2 w8 hv2 hS
      rcases hv2.inv with ⟨-, h0, -⟩ | ⟨g, fill, rfl, hx2, hl2, hcap, rfl⟩
      · omega
      have hbuf : l.flatMap rowC ++ rowC zRow ++ fill = l.flatMap rowC ++ ([.int .i64 0, .int .i64 0, .int .i64 0, .bool false, Str []] ++ fill) := by rw [List.append_assoc]; rfl
      rw [hbuf] at hS
      have hfl : l.length * 5 + 5 + fill.length = c2 * 5 := by
        rw [List.length_append, hPl] at hl2
        exact hl2
      repeat (first | refine SemW.run tblOk ?_ | refine jA (by omega) ?_ | refine jB (by omega) ?_ | refine jC (by omega) ?_ | refine jD (by omega) ?_ | refine jE rfl ?_ | refine jF (by omega) ?_ | (refine jG ?_; first | with_reducible (first | refine jH ?_ | refine jI ?_ | refine jJ ?_ | refine jK ?_ | refine jL ?_) | refine jM (by omega) ?_ | refine jN (by omega) ?_ | with_reducible refine jM rfl ?_ | refine jM (by assumption) ?_ | refine jN (by assumption) ?_ | refine jM (by decide) ?_ | refine jN (by decide) ?_) | refine jF (ptr_ok tblOk rfl rfl) ?_ | refine jO (fun _ => by kernel_rfl) ?_ | refine jF (by decide) ?_ | refine hS.ld rfl ?_ | refine hS.ldn rfl ?_ | (refine hS.st rfl rfl ?_; intro _ hS))
      have hS := hS.sub (List.sublist_cons_self _ _)
      have hS : St w T0 (rowH cb g rr rb q z0 (l.length + 1) c2 (l.flatMap rowC ++ ([.int .i64 0, .int .i64 0, .int .i64 0, .bool false, Str []] ++ fill)) s3) _ := hS.perm (List.Perm.cons _ (List.perm_append_comm (l₁ := [_, _]) (l₂ := [_])))
      refine SemW.draw tblOk mixed (fun w' => St w T0 (rowH cb g rr rb q z0 (l.length + 1) c2 (l.flatMap rowC ++ ([.int .i64 0, .int .i64 0, .int .i64 0, .bool false, Str []] ++ fill)) s3) w') [14] [0, 1, 2, 3, 4, 5, 6, 7, 8, 9, 11, 12, 13, 10, 14] (by kernel_rfl) hS.drew ?_
      have hS := hS.drew
      repeat (first | refine SemW.run tblOk ?_ | refine jA (by omega) ?_ | refine jB (by omega) ?_ | refine jC (by omega) ?_ | refine jD (by omega) ?_ | refine jE rfl ?_ | refine jF (by omega) ?_ | (refine jG ?_; first | with_reducible (first | refine jH ?_ | refine jI ?_ | refine jJ ?_ | refine jK ?_ | refine jL ?_) | refine jM (by omega) ?_ | refine jN (by omega) ?_ | with_reducible refine jM rfl ?_ | refine jM (by assumption) ?_ | refine jN (by assumption) ?_ | refine jM (by decide) ?_ | refine jN (by decide) ?_) | refine jF (ptr_ok tblOk rfl rfl) ?_ | refine jO (fun _ => by kernel_rfl) ?_ | refine jF (by decide) ?_ | refine hS.ldC rfl ?_ | refine hS.ldnC rfl ?_)
      refine hS.al ?_
      intro r w9 _ hS
      refine Chk.mk (hS.sub (List.sublist_cons_self _ _)) ?_
      repeat (first | refine SemW.run tblOk ?_ | refine jA (by omega) ?_ | refine jB (by omega) ?_ | refine jC (by omega) ?_ | refine jD (by omega) ?_ | refine jE rfl ?_ | refine jF (by omega) ?_ | (refine jG ?_; first | with_reducible (first | refine jH ?_ | refine jI ?_ | refine jJ ?_ | refine jK ?_ | refine jL ?_) | refine jM (by omega) ?_ | refine jN (by omega) ?_ | with_reducible refine jM rfl ?_ | refine jM (by assumption) ?_ | refine jN (by assumption) ?_ | refine jM (by decide) ?_ | refine jN (by decide) ?_) | refine jF (ptr_ok tblOk rfl rfl) ?_ | refine jO (fun _ => by kernel_rfl) ?_ | refine jF (by decide) ?_ | refine hS.ldC rfl ?_ | refine hS.ldnC rfl ?_)
      refine InvG.mk ⟨f_wire_reader_int, ptr rr, by kernel_rfl, ?_⟩
      refine Cl.mono (rint_spec (b := g) (s := s3) (hS.part (L := tgH g (l.flatMap rowC ++ ([.int .i64 0, .int .i64 0, .int .i64 0, .bool false, Str []] ++ fill)) T_api_Row rr rb s3)) (by omega) (offs := [0 + l.length * 5 + 0, 0 + l.length * 5 + 1, 0 + l.length * 5 + 2]) (hS.arr (b := r) (show r ∉ [g, rr, rb] from nodup_chunk (L := tgH g (l.flatMap rowC ++ ([.int .i64 0, .int .i64 0, .int .i64 0, .bool false, Str []] ++ fill)) T_api_Row rr rb s3) hS)) (by
        intro o ho
        simp only [List.mem_cons, List.mem_nil_iff, or_false] at ho
        simp only [List.length_append, hPl, List.length_cons, List.length_nil]
        omega) (by simp)) ?_
      rintro _ w10 hS'
      have hS := (hS.call (L := tgH g (l.flatMap rowC ++ ([.int .i64 0, .int .i64 0, .int .i64 0, .bool false, Str []] ++ fill)) T_api_Row rr rb s3) hS').sub (List.sublist_cons_self _ _)
      have hoff3 : [0 + l.length * 5 + 0, 0 + l.length * 5 + 1, 0 + l.length * 5 + 2] = [0, 1, 2].map fun o => (l.flatMap rowC).length + o := by simp [hPl]
      have hS : St w T0 (rowH cb g rr rb q z0 (l.length + 1) c2 (setL (l.flatMap rowC ++ ([.int .i64 0, .int .i64 0, .int .i64 0, .bool false, Str []] ++ fill)) [0 + l.length * 5 + 0, 0 + l.length * 5 + 1, 0 + l.length * 5 + 2] ((wInts 3 s3).1.map intV)) (wInts 3 s3).2) _ := hS
      rw [hoff3, setL_app] at hS
      obtain ⟨x, y, z, hy⟩ := wInts_cut3 s3
      have htl4 := wInts_tlen 3 s3
      rw [hy] at hS
      simp only at hS
      generalize (wInts 3 s3).2 = s4 at hS hy htl4
      have hS : St w T0 (rowH cb g rr rb q z0 (l.length + 1) c2 (l.flatMap rowC ++ ([.int .i64 x, .int .i64 y, .int .i64 z, .bool false, Str []] ++ fill)) s4) _ := hS
      repeat (first | refine SemW.run tblOk ?_ | refine jA (by omega) ?_ | refine jB (by omega) ?_ | refine jC (by omega) ?_ | refine jD (by omega) ?_ | refine jE rfl ?_ | refine jF (by omega) ?_ | (refine jG ?_; first | with_reducible (first | refine jH ?_ | refine jI ?_ | refine jJ ?_ | refine jK ?_ | refine jL ?_) | refine jM (by omega) ?_ | refine jN (by omega) ?_ | with_reducible refine jM rfl ?_ | refine jM (by assumption) ?_ | refine jN (by assumption) ?_ | refine jM (by decide) ?_ | refine jN (by decide) ?_) | refine jF (ptr_ok tblOk rfl rfl) ?_ | refine jO (fun _ => by kernel_rfl) ?_ | refine jF (by decide) ?_)
      refine SemW.draw tblOk mixed (fun w' => St w T0 (rowH cb g rr rb q z0 (l.length + 1) c2 (l.flatMap rowC ++ ([.int .i64 x, .int .i64 y, .int .i64 z, .bool false, Str []] ++ fill)) s4) w') [8] [0, 1, 2, 3, 5, 6, 7, 4, 8] (by kernel_rfl) hS.drew ?_
      have hS := hS.drew
      repeat (first | refine SemW.run tblOk ?_ | refine jA (by omega) ?_ | refine jB (by omega) ?_ | refine jC (by omega) ?_ | refine jD (by omega) ?_ | refine jE rfl ?_ | refine jF (by omega) ?_ | (refine jG ?_; first | with_reducible (first | refine jH ?_ | refine jI ?_ | refine jJ ?_ | refine jK ?_ | refine jL ?_) | refine jM (by omega) ?_ | refine jN (by omega) ?_ | with_reducible refine jM rfl ?_ | refine jM (by assumption) ?_ | refine jN (by assumption) ?_ | refine jM (by decide) ?_ | refine jN (by decide) ?_) | refine jF (ptr_ok tblOk rfl rfl) ?_ | refine jO (fun _ => by kernel_rfl) ?_ | refine jF (by decide) ?_ | refine hS.ldC rfl ?_ | refine hS.ldnC rfl ?_)
      refine hS.al ?_
      intro r w9 _ hS
      refine Chk.mk (hS.sub (List.sublist_cons_self _ _)) ?_
      repeat (first | refine SemW.run tblOk ?_ | refine jA (by omega) ?_ | refine jB (by omega) ?_ | refine jC (by omega) ?_ | refine jD (by omega) ?_ | refine jE rfl ?_ | refine jF (by omega) ?_ | (refine jG ?_; first | with_reducible (first | refine jH ?_ | refine jI ?_ | refine jJ ?_ | refine jK ?_ | refine jL ?_) | refine jM (by omega) ?_ | refine jN (by omega) ?_ | with_reducible refine jM rfl ?_ | refine jM (by assumption) ?_ | refine jN (by assumption) ?_ | refine jM (by decide) ?_ | refine jN (by decide) ?_) | refine jF (ptr_ok tblOk rfl rfl) ?_ | refine jO (fun _ => by kernel_rfl) ?_ | refine jF (by decide) ?_ | refine hS.ldC rfl ?_ | refine hS.ldnC rfl ?_)
      refine InvG.mk ⟨f_wire_reader_marks, ptr rr, by kernel_rfl, ?_⟩
      refine Cl.mono (rmarks_spec (b := g) (s := s4) (hS.part (L := tgH g (l.flatMap rowC ++ ([.int .i64 x, .int .i64 y, .int .i64 z, .bool false, Str []] ++ fill)) T_api_Row rr rb s4)) (by omega) (offs := [0 + l.length * 5 + 3]) (hS.arr (b := r) (show r ∉ [g, rr, rb] from nodup_chunk (L := tgH g (l.flatMap rowC ++ ([.int .i64 x, .int .i64 y, .int .i64 z, .bool false, Str []] ++ fill)) T_api_Row rr rb s4) hS)) (by
        intro o ho
        simp only [List.mem_cons, List.mem_nil_iff, or_false] at ho
        simp only [List.length_append, hPl, List.length_cons, List.length_nil]
        omega) (by simp)) ?_
      rintro _ w10 hS'
      have hS := (hS.call (L := tgH g (l.flatMap rowC ++ ([.int .i64 x, .int .i64 y, .int .i64 z, .bool false, Str []] ++ fill)) T_api_Row rr rb s4) hS').sub (List.sublist_cons_self _ _)
      have hoff1 : [0 + l.length * 5 + 3] = [3].map fun o => (l.flatMap rowC).length + o := by simp [hPl]
      have hS : St w T0 (rowH cb g rr rb q z0 (l.length + 1) c2 (setL (l.flatMap rowC ++ ([.int .i64 x, .int .i64 y, .int .i64 z, .bool false, Str []] ++ fill)) [0 + l.length * 5 + 3] ((wMarks 1 s4).1.map Value.bool)) (wMarks 1 s4).2) _ := hS
      rw [hoff1, setL_app] at hS
      obtain ⟨m, hm⟩ := wMarks_cut1 s4
      have htl5 := wMarks_tlen 1 s4
      rw [hm] at hS
      simp only at hS
      generalize (wMarks 1 s4).2 = s5 at hS hm htl5
      have hS : St w T0 (rowH cb g rr rb q z0 (l.length + 1) c2 (l.flatMap rowC ++ ([.int .i64 x, .int .i64 y, .int .i64 z, .bool m, Str []] ++ fill)) s5) _ := hS
      repeat (first | refine SemW.run tblOk ?_ | refine jA (by omega) ?_ | refine jB (by omega) ?_ | refine jC (by omega) ?_ | refine jD (by omega) ?_ | refine jE rfl ?_ | refine jF (by omega) ?_ | (refine jG ?_; first | with_reducible (first | refine jH ?_ | refine jI ?_ | refine jJ ?_ | refine jK ?_ | refine jL ?_) | refine jM (by omega) ?_ | refine jN (by omega) ?_ | with_reducible refine jM rfl ?_ | refine jM (by assumption) ?_ | refine jN (by assumption) ?_ | refine jM (by decide) ?_ | refine jN (by decide) ?_) | refine jF (ptr_ok tblOk rfl rfl) ?_ | refine jO (fun _ => by kernel_rfl) ?_ | refine jF (by decide) ?_)
      refine SemW.draw tblOk mixed (fun w' => St w T0 (rowH cb g rr rb q z0 (l.length + 1) c2 (l.flatMap rowC ++ ([.int .i64 x, .int .i64 y, .int .i64 z, .bool m, Str []] ++ fill)) s5) w') [7] [0, 1, 2, 3, 4, 5, 6, 7] (by kernel_rfl) hS.drew ?_
      have hS := hS.drew
      repeat (first | refine SemW.run tblOk ?_ | refine jA (by omega) ?_ | refine jB (by omega) ?_ | refine jC (by omega) ?_ | refine jD (by omega) ?_ | refine jE rfl ?_ | refine jF (by omega) ?_ | (refine jG ?_; first | with_reducible (first | refine jH ?_ | refine jI ?_ | refine jJ ?_ | refine jK ?_ | refine jL ?_) | refine jM (by omega) ?_ | refine jN (by omega) ?_ | with_reducible refine jM rfl ?_ | refine jM (by assumption) ?_ | refine jN (by assumption) ?_ | refine jM (by decide) ?_ | refine jN (by decide) ?_) | refine jF (ptr_ok tblOk rfl rfl) ?_ | refine jO (fun _ => by kernel_rfl) ?_ | refine jF (by decide) ?_ | refine hS.ldC rfl ?_ | refine hS.ldnC rfl ?_)
      refine InvG.mk ⟨f_wire_reader_text, ptr rr, by kernel_rfl, ?_⟩
      refine Cl.mono (rtext_spec (b := g) (s := s5) (o := 0 + l.length * 5 + 4) (hS.part (L := tgH g (l.flatMap rowC ++ ([.int .i64 x, .int .i64 y, .int .i64 z, .bool m, Str []] ++ fill)) T_api_Row rr rb s5)) (by omega) (by
        simp only [List.length_append, hPl, List.length_cons, List.length_nil]
        omega)) ?_
      rintro _ w10 hS'
      have hS := hS.call (L := tgH g (l.flatMap rowC ++ ([.int .i64 x, .int .i64 y, .int .i64 z, .bool m, Str []] ++ fill)) T_api_Row rr rb s5) hS'
      have htl6 := wText_tlen s5
      have ht6 : wText s5 = ((wText s5).1, (wText s5).2) := rfl
      have hS : St w T0 (rowH cb g rr rb q z0 (l.length + 1) c2 ((l.flatMap rowC ++ ([.int .i64 x, .int .i64 y, .int .i64 z, .bool m, Str []] ++ fill)).set (0 + l.length * 5 + 4) (Str (wText s5).1)) (wText s5).2) _ := hS
      generalize (wText s5).1 = tx at hS ht6
      generalize (wText s5).2 = s6 at hS ht6 htl6
      rw [show 0 + l.length * 5 + 4 = (l.flatMap rowC).length + 4 by omega, List.set_append_right _ _ (by omega), Nat.add_sub_cancel_left] at hS
      have hrow : wRow s3 = (⟨x, y, z, m, tx⟩, s6) := by
        unfold wRow tk
        rw [hy]
        simp only
        rw [hm]
        simp only
        rw [ht6]
        rfl
      have e8 : l.length + 1 = (l ++ [(⟨x, y, z, m, tx⟩ : RowM)]).length := by simp
      have hvn := vec_row (l := l) (row := ⟨x, y, z, m, tx⟩) (g := g) hfl hcap
      have hxn := wRows_next hrow hlt hx
      rw [e8] at hS
      repeat (first | refine SemW.run tblOk ?_ | refine jA (by omega) ?_ | refine jB (by omega) ?_ | refine jC (by omega) ?_ | refine jD (by omega) ?_ | refine jE rfl ?_ | refine jF (by omega) ?_ | (refine jG ?_; first | with_reducible (first | refine jH ?_ | refine jI ?_ | refine jJ ?_ | refine jK ?_ | refine jL ?_) | refine jM (by omega) ?_ | refine jN (by omega) ?_ | with_reducible refine jM rfl ?_ | refine jM (by assumption) ?_ | refine jN (by assumption) ?_ | refine jM (by decide) ?_ | refine jN (by decide) ?_) | refine jF (ptr_ok tblOk rfl rfl) ?_ | refine jO (fun _ => by kernel_rfl) ?_ | refine jF (by decide) ?_)
      refine ⟨⟨l ++ [⟨x, y, z, m, tx⟩], s6, some ⟨g, 0, none⟩, c2⟩, ⟨rfl, rfl, rfl, congrArg (Value.int .i64) (by rw [← e8]; rfl), trivial⟩, ⟨⟨by simp only; omega, hxn, by simp only; omega⟩, _, hvn, ?_⟩, by simp only; omega⟩
      exact hS.perm (List.Perm.cons _ (List.perm_append_comm (l₁ := [_]) (l₂ := [_, _])))
    · have hle : n - l.length = 0 := by omega
      rw [hle] at hx
      have hx : (l, s3) = wRows n s2 := by rw [← hx]; simp [wRows]
      rw [← hx]
      repeat (first | refine SemW.run tblOk ?_ | refine jA (by omega) ?_ | refine jB (by omega) ?_ | refine jC (by omega) ?_ | refine jD (by omega) ?_ | refine jE rfl ?_ | refine jF (by omega) ?_ | (refine jG ?_; first | with_reducible (first | refine jH ?_ | refine jI ?_ | refine jJ ?_ | refine jK ?_ | refine jL ?_) | refine jM (by omega) ?_ | refine jN (by omega) ?_ | with_reducible refine jM rfl ?_ | refine jM (by assumption) ?_ | refine jN (by assumption) ?_ | refine jM (by decide) ?_ | refine jN (by decide) ?_) | refine jF (ptr_ok tblOk rfl rfl) ?_ | refine jO (fun _ => by kernel_rfl) ?_ | refine jF (by decide) ?_)
      exact ⟨a, cap, Lv, hv, hS⟩
  rw [if_neg h1]
  by_cases h2 : k = 2
  · subst h2
    rw [if_pos rfl]
    repeat (first | refine SemW.run tblOk ?_ | refine jA (by omega) ?_ | refine jB (by omega) ?_ | refine jC (by omega) ?_ | refine jD (by omega) ?_ | refine jE rfl ?_ | refine jF (by omega) ?_ | (refine jG ?_; first | with_reducible (first | refine jH ?_ | refine jI ?_ | refine jJ ?_ | refine jK ?_ | refine jL ?_) | refine jM (by omega) ?_ | refine jN (by omega) ?_ | with_reducible refine jM rfl ?_ | refine jM (by assumption) ?_ | refine jN (by assumption) ?_ | refine jM (by decide) ?_ | refine jN (by decide) ?_) | refine jF (ptr_ok tblOk rfl rfl) ?_ | refine jO (fun _ => by kernel_rfl) ?_ | refine jF (by decide) ?_)
    refine SemW.draw tblOk mixed (fun w' => St w T0 (cmdH cb rr rb (hdC 2 q) none 0 s []) w') [11] [0, 1, 2, 3, 4, 5, 6, 8, 9, 10, 7, 11] (by kernel_rfl) hS.drew ?_
    have hS := hS.drew
    repeat (first | refine SemW.run tblOk ?_ | refine jA (by omega) ?_ | refine jB (by omega) ?_ | refine jC (by omega) ?_ | refine jD (by omega) ?_ | refine jE rfl ?_ | refine jF (by omega) ?_ | (refine jG ?_; first | with_reducible (first | refine jH ?_ | refine jI ?_ | refine jJ ?_ | refine jK ?_ | refine jL ?_) | refine jM (by omega) ?_ | refine jN (by omega) ?_ | with_reducible refine jM rfl ?_ | refine jM (by assumption) ?_ | refine jN (by assumption) ?_ | refine jM (by decide) ?_ | refine jN (by decide) ?_) | refine jF (ptr_ok tblOk rfl rfl) ?_ | refine jO (fun _ => by kernel_rfl) ?_ | refine jF (by decide) ?_ | refine hS.ldC rfl ?_ | refine hS.ldnC rfl ?_)
    refine hS.al ?_
    intro r w3 _ hS
    refine Chk.mk (hS.sub (List.sublist_cons_self _ _)) ?_
    repeat (first | refine SemW.run tblOk ?_ | refine jA (by omega) ?_ | refine jB (by omega) ?_ | refine jC (by omega) ?_ | refine jD (by omega) ?_ | refine jE rfl ?_ | refine jF (by omega) ?_ | (refine jG ?_; first | with_reducible (first | refine jH ?_ | refine jI ?_ | refine jJ ?_ | refine jK ?_ | refine jL ?_) | refine jM (by omega) ?_ | refine jN (by omega) ?_ | with_reducible refine jM rfl ?_ | refine jM (by assumption) ?_ | refine jN (by assumption) ?_ | refine jM (by decide) ?_ | refine jN (by decide) ?_) | refine jF (ptr_ok tblOk rfl rfl) ?_ | refine jO (fun _ => by kernel_rfl) ?_ | refine jF (by decide) ?_ | refine hS.ldC rfl ?_ | refine hS.ldnC rfl ?_)
    refine InvG.mk ⟨f_wire_reader_int, ptr rr, by kernel_rfl, ?_⟩
    refine Cl.mono (rint_spec (b := cb) (s := s) (hS.part (L := (cmdH cb rr rb (hdC 2 q) none 0 s []))) (by omega) (offs := [2, 4]) (hS.arr (b := r) (show r ∉ [cb, rr, rb] from nodup_chunk (L := (cmdH cb rr rb (hdC 2 q) none 0 s [])) hS)) (by simp) (by simp)) ?_
    rintro _ w4 hS'
    have hS := (hS.call (L := (cmdH cb rr rb (hdC 2 q) none 0 s [])) hS').sub (List.sublist_cons_self _ _)
    repeat (first | refine SemW.run tblOk ?_ | refine jA (by omega) ?_ | refine jB (by omega) ?_ | refine jC (by omega) ?_ | refine jD (by omega) ?_ | refine jE rfl ?_ | refine jF (by omega) ?_ | (refine jG ?_; first | with_reducible (first | refine jH ?_ | refine jI ?_ | refine jJ ?_ | refine jK ?_ | refine jL ?_) | refine jM (by omega) ?_ | refine jN (by omega) ?_ | with_reducible refine jM rfl ?_ | refine jM (by assumption) ?_ | refine jN (by assumption) ?_ | refine jM (by decide) ?_ | refine jN (by decide) ?_) | refine jF (ptr_ok tblOk rfl rfl) ?_ | refine jO (fun _ => by kernel_rfl) ?_ | refine jF (by decide) ?_)
    obtain ⟨y, z, hy, -, -⟩ := wInts_cut2 s
    have htl := wInts_tlen 2 s
    unfold wField tk
    simp only
    have hS : St w T0 (tgH cb (setL (cmdC (hdC 2 q) none 0) [2, 4] ((wInts 2 s).1.map intV)) T_api_Command rr rb (wInts 2 s).2) _ := hS
    rw [hy] at hS ⊢
    simp only at hS ⊢
    generalize (wInts 2 s).2 = s1 at hS htl ⊢
    have hS : St w T0 (tgH cb (cmdC { hdC 2 q with id := y, eq := z } none 0) T_api_Command rr rb s1) _ := hS
    refine SemW.loop (fun k : Nat => [(0, .iface T_Ptr_wire_reader (ptr rr)), (1, ptr cb), (116, .int .i64 k)])
      (fun k w' => k ≤ 4 ∧ St w T0 (tgH cb (setL (cmdC { hdC 2 q with id := y, eq := z } none 0) ([14, 15, 16, 17].take k) ((wInts k s1).1.map intV)) T_api_Command rr rb (wInts k s1).2) w') (fun k => 4 - k) 0
      ⟨rfl, rfl, rfl, trivial⟩ ⟨Nat.zero_le _, hS⟩ ?_
    clear hS hS'
    rintro k w6 ⟨hk, hS⟩
    by_cases hk4 : k < 4
    · have hsucc := wInts_succ k s1
      have htl2 := wInts_tlen k s1
      have hwl := wInts_len k s1
      have hx : [14, 15, 16, 17][k] = 14 + k * 1 := by
        match k, hk4 with
        | 0, _ => rfl
        | 1, _ => rfl
        | 2, _ => rfl
        | 3, _ => rfl
      have hset := setL_snoc ([14, 15, 16, 17].take k) ((wInts k s1).1.map intV) (cmdC { hdC 2 q with id := y, eq := z } none 0) [14, 15, 16, 17][k] (intV (rbInt (wInts k s1).2).1) (by rw [List.length_take, List.length_map, hwl]; simp; omega)
      rw [← List.take_succ_eq_append_getElem hk4, hx] at hset
      have hsl := setL_len ([14, 15, 16, 17].take k) ((wInts k s1).1.map intV) (cmdC { hdC 2 q with id := y, eq := z } none 0)
      have hfin : tgH cb (setL (cmdC { hdC 2 q with id := y, eq := z } none 0) ([14, 15, 16, 17].take (k + 1)) ((wInts (k + 1) s1).1.map intV)) T_api_Command rr rb (wInts (k + 1) s1).2 = tgH cb ((setL (cmdC { hdC 2 q with id := y, eq := z } none 0) ([14, 15, 16, 17].take k) ((wInts k s1).1.map intV)).set (14 + k * 1) (intV (rbInt (wInts k s1).2).1)) T_api_Command rr rb (rbInt (wInts k s1).2).2 := by
        rw [hsucc, ← hset]; simp
      have hsl : (setL (cmdC { hdC 2 q with id := y, eq := z } none 0) ([14, 15, 16, 17].take k) ((wInts k s1).1.map intV)).length = 19 := hsl
      generalize setL (cmdC { hdC 2 q with id := y, eq := z } none 0) ([14, 15, 16, 17].take k) ((wInts k s1).1.map intV) = ys at hS hfin hsl
      generalize (wInts k s1).2 = s3 at hS hfin htl2
      repeat (first | refine SemW.run tblOk ?_ | refine jA (by omega) ?_ | refine jB (by omega) ?_ | refine jC (by omega) ?_ | refine jD (by omega) ?_ | refine jE rfl ?_ | refine jF (by omega) ?_ | (refine jG ?_; first | with_reducible (first | refine jH ?_ | refine jI ?_ | refine jJ ?_ | refine jK ?_ | refine jL ?_) | refine jM (by omega) ?_ | refine jN (by omega) ?_ | with_reducible refine jM rfl ?_ | refine jM (by assumption) ?_ | refine jN (by assumption) ?_ | refine jM (by decide) ?_ | refine jN (by decide) ?_) | refine jF (ptr_ok tblOk rfl rfl) ?_ | refine jO (fun _ => by kernel_rfl) ?_ | refine jF (by decide) ?_)
      refine SemW.draw tblOk mixed (fun w' => St w T0 (tgH cb ys T_api_Command rr rb s3) w') [10] [0, 1, 2, 3, 4, 5, 7, 8, 9, 6, 10] (by kernel_rfl) hS.drew ?_
      have hS := hS.drew
      repeat (first | refine SemW.run tblOk ?_ | refine jA (by omega) ?_ | refine jB (by omega) ?_ | refine jC (by omega) ?_ | refine jD (by omega) ?_ | refine jE rfl ?_ | refine jF (by omega) ?_ | (refine jG ?_; first | with_reducible (first | refine jH ?_ | refine jI ?_ | refine jJ ?_ | refine jK ?_ | refine jL ?_) | refine jM (by omega) ?_ | refine jN (by omega) ?_ | with_reducible refine jM rfl ?_ | refine jM (by assumption) ?_ | refine jN (by assumption) ?_ | refine jM (by decide) ?_ | refine jN (by decide) ?_) | refine jF (ptr_ok tblOk rfl rfl) ?_ | refine jO (fun _ => by kernel_rfl) ?_ | refine jF (by decide) ?_ | refine hS.ldC rfl ?_ | refine hS.ldnC rfl ?_)
      refine hS.al ?_
      intro r w3 _ hS
      refine Chk.mk (hS.sub (List.sublist_cons_self _ _)) ?_
      repeat (first | refine SemW.run tblOk ?_ | refine jA (by omega) ?_ | refine jB (by omega) ?_ | refine jC (by omega) ?_ | refine jD (by omega) ?_ | refine jE rfl ?_ | refine jF (by omega) ?_ | (refine jG ?_; first | with_reducible (first | refine jH ?_ | refine jI ?_ | refine jJ ?_ | refine jK ?_ | refine jL ?_) | refine jM (by omega) ?_ | refine jN (by omega) ?_ | with_reducible refine jM rfl ?_ | refine jM (by assumption) ?_ | refine jN (by assumption) ?_ | refine jM (by decide) ?_ | refine jN (by decide) ?_) | refine jF (ptr_ok tblOk rfl rfl) ?_ | refine jO (fun _ => by kernel_rfl) ?_ | refine jF (by decide) ?_ | refine hS.ldC rfl ?_ | refine hS.ldnC rfl ?_)
      refine InvG.mk ⟨f_wire_reader_int, ptr rr, by kernel_rfl, ?_⟩
      refine Cl.mono (rint_spec (b := cb) (s := s3) (hS.part (L := tgH cb ys T_api_Command rr rb s3)) (by omega) (offs := [14 + k * 1]) (hS.arr (b := r) (show r ∉ [cb, rr, rb] from nodup_chunk (L := tgH cb ys T_api_Command rr rb s3) hS)) (by intro o ho; rw [List.mem_singleton] at ho; omega) (by simp)) ?_
      rintro _ w4 hS'
      have hS := (hS.call (L := tgH cb ys T_api_Command rr rb s3) hS').sub (List.sublist_cons_self _ _)
      repeat (first | refine SemW.run tblOk ?_ | refine jA (by omega) ?_ | refine jB (by omega) ?_ | refine jC (by omega) ?_ | refine jD (by omega) ?_ | refine jE rfl ?_ | refine jF (by omega) ?_ | (refine jG ?_; first | with_reducible (first | refine jH ?_ | refine jI ?_ | refine jJ ?_ | refine jK ?_ | refine jL ?_) | refine jM (by omega) ?_ | refine jN (by omega) ?_ | with_reducible refine jM rfl ?_ | refine jM (by assumption) ?_ | refine jN (by assumption) ?_ | refine jM (by decide) ?_ | refine jN (by decide) ?_) | refine jF (ptr_ok tblOk rfl rfl) ?_ | refine jO (fun _ => by kernel_rfl) ?_ | refine jF (by decide) ?_)
      exact ⟨k + 1, ⟨rfl, rfl, rfl, trivial⟩, ⟨by omega, by rw [hfin]; exact hS⟩, by omega⟩
    · have hke : k = 4 := by omega
      subst hke
      obtain ⟨a1, a2, a3, a4, hy4⟩ := wInts_cut4 s1
      rw [hy4] at hS ⊢
      repeat (first | refine SemW.run tblOk ?_ | refine jA (by omega) ?_ | refine jB (by omega) ?_ | refine jC (by omega) ?_ | refine jD (by omega) ?_ | refine jE rfl ?_ | refine jF (by omega) ?_ | (refine jG ?_; first | with_reducible (first | refine jH ?_ | refine jI ?_ | refine jJ ?_ | refine jK ?_ | refine jL ?_) | refine jM (by omega) ?_ | refine jN (by omega) ?_ | with_reducible refine jM rfl ?_ | refine jM (by assumption) ?_ | refine jN (by assumption) ?_ | refine jM (by decide) ?_ | refine jN (by decide) ?_) | refine jF (ptr_ok tblOk rfl rfl) ?_ | refine jO (fun _ => by kernel_rfl) ?_ | refine jF (by decide) ?_)
      exact ⟨none, 0, [], Vec.nil, hS⟩
  rw [if_neg h2]
  by_cases h3 : k = 3
  · subst h3
    rw [if_pos rfl]
    repeat (first | refine SemW.run tblOk ?_ | refine jA (by omega) ?_ | refine jB (by omega) ?_ | refine jC (by omega) ?_ | refine jD (by omega) ?_ | refine jE rfl ?_ | refine jF (by omega) ?_ | (refine jG ?_; first | with_reducible (first | refine jH ?_ | refine jI ?_ | refine jJ ?_ | refine jK ?_ | refine jL ?_) | refine jM (by omega) ?_ | refine jN (by omega) ?_ | with_reducible refine jM rfl ?_ | refine jM (by assumption) ?_ | refine jN (by assumption) ?_ | refine jM (by decide) ?_ | refine jN (by decide) ?_) | refine jF (ptr_ok tblOk rfl rfl) ?_ | refine jO (fun _ => by kernel_rfl) ?_ | refine jF (by decide) ?_)
    refine SemW.draw tblOk mixed (fun w' => St w T0 (cmdH cb rr rb (hdC 3 q) none 0 s []) w') [18] [0, 1, 2, 3, 4, 5, 6, 7, 8, 9, 10, 11, 12, 13, 15, 16, 17, 14, 18] (by kernel_rfl) hS.drew ?_
    have hS := hS.drew
    repeat (first | refine SemW.run tblOk ?_ | refine jA (by omega) ?_ | refine jB (by omega) ?_ | refine jC (by omega) ?_ | refine jD (by omega) ?_ | refine jE rfl ?_ | refine jF (by omega) ?_ | (refine jG ?_; first | with_reducible (first | refine jH ?_ | refine jI ?_ | refine jJ ?_ | refine jK ?_ | refine jL ?_) | refine jM (by omega) ?_ | refine jN (by omega) ?_ | with_reducible refine jM rfl ?_ | refine jM (by assumption) ?_ | refine jN (by assumption) ?_ | refine jM (by decide) ?_ | refine jN (by decide) ?_) | refine jF (ptr_ok tblOk rfl rfl) ?_ | refine jO (fun _ => by kernel_rfl) ?_ | refine jF (by decide) ?_ | refine hS.ldC rfl ?_ | refine hS.ldnC rfl ?_)
    refine hS.al ?_
    intro r w3 _ hS
    refine Chk.mk (hS.sub (List.sublist_cons_self _ _)) ?_
    repeat (first | refine SemW.run tblOk ?_ | refine jA (by omega) ?_ | refine jB (by omega) ?_ | refine jC (by omega) ?_ | refine jD (by omega) ?_ | refine jE rfl ?_ | refine jF (by omega) ?_ | (refine jG ?_; first | with_reducible (first | refine jH ?_ | refine jI ?_ | refine jJ ?_ | refine jK ?_ | refine jL ?_) | refine jM (by omega) ?_ | refine jN (by omega) ?_ | with_reducible refine jM rfl ?_ | refine jM (by assumption) ?_ | refine jN (by assumption) ?_ | refine jM (by decide) ?_ | refine jN (by decide) ?_) | refine jF (ptr_ok tblOk rfl rfl) ?_ | refine jO (fun _ => by kernel_rfl) ?_ | refine jF (by decide) ?_ | refine hS.ldC rfl ?_ | refine hS.ldnC rfl ?_)
    refine InvG.mk ⟨f_wire_reader_int, ptr rr, by kernel_rfl, ?_⟩
    refine Cl.mono (rint_spec (b := cb) (s := s) (hS.part (L := (cmdH cb rr rb (hdC 3 q) none 0 s []))) (by omega) (offs := [2, 3, 6, 5]) (hS.arr (b := r) (show r ∉ [cb, rr, rb] from nodup_chunk (L := (cmdH cb rr rb (hdC 3 q) none 0 s [])) hS)) (by simp) (by simp)) ?_
    rintro _ w4 hS'
    have hS := (hS.call (L := (cmdH cb rr rb (hdC 3 q) none 0 s [])) hS').sub (List.sublist_cons_self _ _)
    repeat (first | refine SemW.run tblOk ?_ | refine jA (by omega) ?_ | refine jB (by omega) ?_ | refine jC (by omega) ?_ | refine jD (by omega) ?_ | refine jE rfl ?_ | refine jF (by omega) ?_ | (refine jG ?_; first | with_reducible (first | refine jH ?_ | refine jI ?_ | refine jJ ?_ | refine jK ?_ | refine jL ?_) | refine jM (by omega) ?_ | refine jN (by omega) ?_ | with_reducible refine jM rfl ?_ | refine jM (by assumption) ?_ | refine jN (by assumption) ?_ | refine jM (by decide) ?_ | refine jN (by decide) ?_) | refine jF (ptr_ok tblOk rfl rfl) ?_ | refine jO (fun _ => by kernel_rfl) ?_ | refine jF (by decide) ?_)
    obtain ⟨x, y, z, u, hy⟩ := wInts_cut4 s
    have htl := wInts_tlen 4 s
    unfold wField tk
    simp only
    have hS : St w T0 (tgH cb (setL (cmdC (hdC 3 q) none 0) [2, 3, 6, 5] ((wInts 4 s).1.map intV)) T_api_Command rr rb (wInts 4 s).2) _ := hS
    rw [hy] at hS ⊢
    simp only at hS ⊢
    generalize (wInts 4 s).2 = s1 at hS htl ⊢
    have hS : St w T0 (tgH cb (cmdC { hdC 3 q with id := x, fl := y, wcab := z, cls := u } none 0) T_api_Command rr rb s1) _ := hS
    refine SemW.draw tblOk mixed (fun w' => St w T0 (tgH cb (cmdC { hdC 3 q with id := x, fl := y, wcab := z, cls := u } none 0) T_api_Command rr rb s1) w') [19] [0, 1, 2, 3, 4, 5, 6, 7, 8, 9, 10, 11, 12, 13, 14, 16, 17, 18, 15, 19] (by kernel_rfl) hS.drew ?_
    have hS := hS.drew
    repeat (first | refine SemW.run tblOk ?_ | refine jA (by omega) ?_ | refine jB (by omega) ?_ | refine jC (by omega) ?_ | refine jD (by omega) ?_ | refine jE rfl ?_ | refine jF (by omega) ?_ | (refine jG ?_; first | with_reducible (first | refine jH ?_ | refine jI ?_ | refine jJ ?_ | refine jK ?_ | refine jL ?_) | refine jM (by omega) ?_ | refine jN (by omega) ?_ | with_reducible refine jM rfl ?_ | refine jM (by assumption) ?_ | refine jN (by assumption) ?_ | refine jM (by decide) ?_ | refine jN (by decide) ?_) | refine jF (ptr_ok tblOk rfl rfl) ?_ | refine jO (fun _ => by kernel_rfl) ?_ | refine jF (by decide) ?_ | refine hS.ldC rfl ?_ | refine hS.ldnC rfl ?_)
    refine hS.al ?_
    intro r w3 _ hS
    refine Chk.mk (hS.sub (List.sublist_cons_self _ _)) ?_
    repeat (first | refine SemW.run tblOk ?_ | refine jA (by omega) ?_ | refine jB (by omega) ?_ | refine jC (by omega) ?_ | refine jD (by omega) ?_ | refine jE rfl ?_ | refine jF (by omega) ?_ | (refine jG ?_; first | with_reducible (first | refine jH ?_ | refine jI ?_ | refine jJ ?_ | refine jK ?_ | refine jL ?_) | refine jM (by omega) ?_ | refine jN (by omega) ?_ | with_reducible refine jM rfl ?_ | refine jM (by assumption) ?_ | refine jN (by assumption) ?_ | refine jM (by decide) ?_ | refine jN (by decide) ?_) | refine jF (ptr_ok tblOk rfl rfl) ?_ | refine jO (fun _ => by kernel_rfl) ?_ | refine jF (by decide) ?_ | refine hS.ldC rfl ?_ | refine hS.ldnC rfl ?_)
    refine InvG.mk ⟨f_wire_reader_marks, ptr rr, by kernel_rfl, ?_⟩
    refine Cl.mono (rmarks_spec (b := cb) (s := s1) (hS.part (L := tgH cb (cmdC { hdC 3 q with id := x, fl := y, wcab := z, cls := u } none 0) T_api_Command rr rb s1)) (by omega) (offs := [7, 8, 9, 10]) (hS.arr (b := r) (show r ∉ [cb, rr, rb] from nodup_chunk (L := tgH cb (cmdC { hdC 3 q with id := x, fl := y, wcab := z, cls := u } none 0) T_api_Command rr rb s1) hS)) (by simp) (by simp)) ?_
    rintro _ w4 hS'
    have hS := (hS.call (L := tgH cb (cmdC { hdC 3 q with id := x, fl := y, wcab := z, cls := u } none 0) T_api_Command rr rb s1) hS').sub (List.sublist_cons_self _ _)
    obtain ⟨b1, b2, b3, b4, hm⟩ := wMarks_cut4 s1
    repeat (first | refine SemW.run tblOk ?_ | refine jA (by omega) ?_ | refine jB (by omega) ?_ | refine jC (by omega) ?_ | refine jD (by omega) ?_ | refine jE rfl ?_ | refine jF (by omega) ?_ | (refine jG ?_; first | with_reducible (first | refine jH ?_ | refine jI ?_ | refine jJ ?_ | refine jK ?_ | refine jL ?_) | refine jM (by omega) ?_ | refine jN (by omega) ?_ | with_reducible refine jM rfl ?_ | refine jM (by assumption) ?_ | refine jN (by assumption) ?_ | refine jM (by decide) ?_ | refine jN (by decide) ?_) | refine jF (ptr_ok tblOk rfl rfl) ?_ | refine jO (fun _ => by kernel_rfl) ?_ | refine jF (by decide) ?_)
    have hS : St w T0 (tgH cb (setL (cmdC { hdC 3 q with id := x, fl := y, wcab := z, cls := u } none 0) [7, 8, 9, 10] ((wMarks 4 s1).1.map Value.bool)) T_api_Command rr rb (wMarks 4 s1).2) _ := hS
    rw [hm] at hS ⊢
    exact ⟨none, 0, [], Vec.nil, hS⟩
  rw [if_neg h3]
  by_cases h6 : k = 6
  · subst h6
    rw [if_pos rfl]
    repeat (first | refine SemW.run tblOk ?_ | refine jA (by omega) ?_ | refine jB (by omega) ?_ | refine jC (by omega) ?_ | refine jD (by omega) ?_ | refine jE rfl ?_ | refine jF (by omega) ?_ | (refine jG ?_; first | with_reducible (first | refine jH ?_ | refine jI ?_ | refine jJ ?_ | refine jK ?_ | refine jL ?_) | refine jM (by omega) ?_ | refine jN (by omega) ?_ | with_reducible refine jM rfl ?_ | refine jM (by assumption) ?_ | refine jN (by assumption) ?_ | refine jM (by decide) ?_ | refine jN (by decide) ?_) | refine jF (ptr_ok tblOk rfl rfl) ?_ | refine jO (fun _ => by kernel_rfl) ?_ | refine jF (by decide) ?_)
    refine SemW.draw tblOk mixed (fun w' => St w T0 (cmdH cb rr rb (hdC 6 q) none 0 s []) w') [12] [0, 1, 2, 3, 4, 5, 6, 7, 9, 10, 11, 8, 12] (by kernel_rfl) hS.drew ?_
    have hS := hS.drew
    repeat (first | refine SemW.run tblOk ?_ | refine jA (by omega) ?_ | refine jB (by omega) ?_ | refine jC (by omega) ?_ | refine jD (by omega) ?_ | refine jE rfl ?_ | refine jF (by omega) ?_ | (refine jG ?_; first | with_reducible (first | refine jH ?_ | refine jI ?_ | refine jJ ?_ | refine jK ?_ | refine jL ?_) | refine jM (by omega) ?_ | refine jN (by omega) ?_ | with_reducible refine jM rfl ?_ | refine jM (by assumption) ?_ | refine jN (by assumption) ?_ | refine jM (by decide) ?_ | refine jN (by decide) ?_) | refine jF (ptr_ok tblOk rfl rfl) ?_ | refine jO (fun _ => by kernel_rfl) ?_ | refine jF (by decide) ?_ | refine hS.ldC rfl ?_ | refine hS.ldnC rfl ?_)
    refine hS.al ?_
    intro r w3 _ hS
    refine Chk.mk (hS.sub (List.sublist_cons_self _ _)) ?_
    repeat (first | refine SemW.run tblOk ?_ | refine jA (by omega) ?_ | refine jB (by omega) ?_ | refine jC (by omega) ?_ | refine jD (by omega) ?_ | refine jE rfl ?_ | refine jF (by omega) ?_ | (refine jG ?_; first | with_reducible (first | refine jH ?_ | refine jI ?_ | refine jJ ?_ | refine jK ?_ | refine jL ?_) | refine jM (by omega) ?_ | refine jN (by omega) ?_ | with_reducible refine jM rfl ?_ | refine jM (by assumption) ?_ | refine jN (by assumption) ?_ | refine jM (by decide) ?_ | refine jN (by decide) ?_) | refine jF (ptr_ok tblOk rfl rfl) ?_ | refine jO (fun _ => by kernel_rfl) ?_ | refine jF (by decide) ?_ | refine hS.ldC rfl ?_ | refine hS.ldnC rfl ?_)
    refine InvG.mk ⟨f_wire_reader_int, ptr rr, by kernel_rfl, ?_⟩
    refine Cl.mono (rint_spec (b := cb) (s := s) (hS.part (L := (cmdH cb rr rb (hdC 6 q) none 0 s []))) (by omega) (offs := [2, 11]) (hS.arr (b := r) (show r ∉ [cb, rr, rb] from nodup_chunk (L := (cmdH cb rr rb (hdC 6 q) none 0 s [])) hS)) (by simp) (by simp)) ?_
    rintro _ w4 hS'
    have hS := (hS.call (L := (cmdH cb rr rb (hdC 6 q) none 0 s [])) hS').sub (List.sublist_cons_self _ _)
    repeat (first | refine SemW.run tblOk ?_ | refine jA (by omega) ?_ | refine jB (by omega) ?_ | refine jC (by omega) ?_ | refine jD (by omega) ?_ | refine jE rfl ?_ | refine jF (by omega) ?_ | (refine jG ?_; first | with_reducible (first | refine jH ?_ | refine jI ?_ | refine jJ ?_ | refine jK ?_ | refine jL ?_) | refine jM (by omega) ?_ | refine jN (by omega) ?_ | with_reducible refine jM rfl ?_ | refine jM (by assumption) ?_ | refine jN (by assumption) ?_ | refine jM (by decide) ?_ | refine jN (by decide) ?_) | refine jF (ptr_ok tblOk rfl rfl) ?_ | refine jO (fun _ => by kernel_rfl) ?_ | refine jF (by decide) ?_)
    obtain ⟨y, z, hy, -, -⟩ := wInts_cut2 s
    have htl := wInts_tlen 2 s
    unfold wField tk
    simp only
    have hS : St w T0 (tgH cb (setL (cmdC (hdC 6 q) none 0) [2, 11] ((wInts 2 s).1.map intV)) T_api_Command rr rb (wInts 2 s).2) _ := hS
    rw [hy] at hS ⊢
    simp only at hS ⊢
    generalize (wInts 2 s).2 = s1 at hS htl ⊢
    have hS : St w T0 (tgH cb (cmdC { hdC 6 q with id := y, num := z } none 0) T_api_Command rr rb s1) _ := hS
    refine SemW.draw tblOk mixed (fun w' => St w T0 (tgH cb (cmdC { hdC 6 q with id := y, num := z } none 0) T_api_Command rr rb s1) w') [8] [0, 1, 2, 3, 4, 5, 6, 7, 8] (by kernel_rfl) hS.drew ?_
    have hS := hS.drew
    repeat (first | refine SemW.run tblOk ?_ | refine jA (by omega) ?_ | refine jB (by omega) ?_ | refine jC (by omega) ?_ | refine jD (by omega) ?_ | refine jE rfl ?_ | refine jF (by omega) ?_ | (refine jG ?_; first | with_reducible (first | refine jH ?_ | refine jI ?_ | refine jJ ?_ | refine jK ?_ | refine jL ?_) | refine jM (by omega) ?_ | refine jN (by omega) ?_ | with_reducible refine jM rfl ?_ | refine jM (by assumption) ?_ | refine jN (by assumption) ?_ | refine jM (by decide) ?_ | refine jN (by decide) ?_) | refine jF (ptr_ok tblOk rfl rfl) ?_ | refine jO (fun _ => by kernel_rfl) ?_ | refine jF (by decide) ?_ | refine hS.ldC rfl ?_ | refine hS.ldnC rfl ?_)
    refine InvG.mk ⟨f_wire_reader_letter, ptr rr, by kernel_rfl, ?_⟩
    refine Cl.mono (rletter_spec (b := cb) (s := s1) (o := 12) (hS.part (L := tgH cb (cmdC { hdC 6 q with id := y, num := z } none 0) T_api_Command rr rb s1)) (by omega) (by simp)) ?_
    rintro _ w4 hS'
    have hS := hS.call (L := tgH cb (cmdC { hdC 6 q with id := y, num := z } none 0) T_api_Command rr rb s1) hS'
    repeat (first | refine SemW.run tblOk ?_ | refine jA (by omega) ?_ | refine jB (by omega) ?_ | refine jC (by omega) ?_ | refine jD (by omega) ?_ | refine jE rfl ?_ | refine jF (by omega) ?_ | (refine jG ?_; first | with_reducible (first | refine jH ?_ | refine jI ?_ | refine jJ ?_ | refine jK ?_ | refine jL ?_) | refine jM (by omega) ?_ | refine jN (by omega) ?_ | with_reducible refine jM rfl ?_ | refine jM (by assumption) ?_ | refine jN (by assumption) ?_ | refine jM (by decide) ?_ | refine jN (by decide) ?_) | refine jF (ptr_ok tblOk rfl rfl) ?_ | refine jO (fun _ => by kernel_rfl) ?_ | refine jF (by decide) ?_)
    exact ⟨none, 0, [], Vec.nil, hS⟩
  rw [if_neg h6]
  by_cases h8 : k = 8
  · subst h8
    rw [if_pos rfl]
    repeat (first | refine SemW.run tblOk ?_ | refine jA (by omega) ?_ | refine jB (by omega) ?_ | refine jC (by omega) ?_ | refine jD (by omega) ?_ | refine jE rfl ?_ | refine jF (by omega) ?_ | (refine jG ?_; first | with_reducible (first | refine jH ?_ | refine jI ?_ | refine jJ ?_ | refine jK ?_ | refine jL ?_) | refine jM (by omega) ?_ | refine jN (by omega) ?_ | with_reducible refine jM rfl ?_ | refine jM (by assumption) ?_ | refine jN (by assumption) ?_ | refine jM (by decide) ?_ | refine jN (by decide) ?_) | refine jF (ptr_ok tblOk rfl rfl) ?_ | refine jO (fun _ => by kernel_rfl) ?_ | refine jF (by decide) ?_)
    refine SemW.draw tblOk mixed (fun w' => St w T0 (cmdH cb rr rb (hdC 8 q) none 0 s []) w') [11] [0, 1, 2, 3, 4, 5, 6, 8, 9, 10, 7, 11] (by kernel_rfl) hS.drew ?_
    have hS := hS.drew
    repeat (first | refine SemW.run tblOk ?_ | refine jA (by omega) ?_ | refine jB (by omega) ?_ | refine jC (by omega) ?_ | refine jD (by omega) ?_ | refine jE rfl ?_ | refine jF (by omega) ?_ | (refine jG ?_; first | with_reducible (first | refine jH ?_ | refine jI ?_ | refine jJ ?_ | refine jK ?_ | refine jL ?_) | refine jM (by omega) ?_ | refine jN (by omega) ?_ | with_reducible refine jM rfl ?_ | refine jM (by assumption) ?_ | refine jN (by assumption) ?_ | refine jM (by decide) ?_ | refine jN (by decide) ?_) | refine jF (ptr_ok tblOk rfl rfl) ?_ | refine jO (fun _ => by kernel_rfl) ?_ | refine jF (by decide) ?_ | refine hS.ldC rfl ?_ | refine hS.ldnC rfl ?_)
    refine hS.al ?_
    intro r w3 _ hS
    refine Chk.mk (hS.sub (List.sublist_cons_self _ _)) ?_
    repeat (first | refine SemW.run tblOk ?_ | refine jA (by omega) ?_ | refine jB (by omega) ?_ | refine jC (by omega) ?_ | refine jD (by omega) ?_ | refine jE rfl ?_ | refine jF (by omega) ?_ | (refine jG ?_; first | with_reducible (first | refine jH ?_ | refine jI ?_ | refine jJ ?_ | refine jK ?_ | refine jL ?_) | refine jM (by omega) ?_ | refine jN (by omega) ?_ | with_reducible refine jM rfl ?_ | refine jM (by assumption) ?_ | refine jN (by assumption) ?_ | refine jM (by decide) ?_ | refine jN (by decide) ?_) | refine jF (ptr_ok tblOk rfl rfl) ?_ | refine jO (fun _ => by kernel_rfl) ?_ | refine jF (by decide) ?_ | refine hS.ldC rfl ?_ | refine hS.ldnC rfl ?_)
    refine InvG.mk ⟨f_wire_reader_int, ptr rr, by kernel_rfl, ?_⟩
    refine Cl.mono (rint_spec (b := cb) (s := s) (hS.part (L := (cmdH cb rr rb (hdC 8 q) none 0 s []))) (by omega) (offs := [3, 4]) (hS.arr (b := r) (show r ∉ [cb, rr, rb] from nodup_chunk (L := (cmdH cb rr rb (hdC 8 q) none 0 s [])) hS)) (by simp) (by simp)) ?_
    rintro _ w4 hS'
    have hS := (hS.call (L := (cmdH cb rr rb (hdC 8 q) none 0 s [])) hS').sub (List.sublist_cons_self _ _)
    repeat (first | refine SemW.run tblOk ?_ | refine jA (by omega) ?_ | refine jB (by omega) ?_ | refine jC (by omega) ?_ | refine jD (by omega) ?_ | refine jE rfl ?_ | refine jF (by omega) ?_ | (refine jG ?_; first | with_reducible (first | refine jH ?_ | refine jI ?_ | refine jJ ?_ | refine jK ?_ | refine jL ?_) | refine jM (by omega) ?_ | refine jN (by omega) ?_ | with_reducible refine jM rfl ?_ | refine jM (by assumption) ?_ | refine jN (by assumption) ?_ | refine jM (by decide) ?_ | refine jN (by decide) ?_) | refine jF (ptr_ok tblOk rfl rfl) ?_ | refine jO (fun _ => by kernel_rfl) ?_ | refine jF (by decide) ?_)
    obtain ⟨y, z, hy, -, -⟩ := wInts_cut2 s
    unfold wField tk
    simp only
    have hS : St w T0 (tgH cb (setL (cmdC (hdC 8 q) none 0) [3, 4] ((wInts 2 s).1.map intV)) T_api_Command rr rb (wInts 2 s).2) _ := hS
    rw [hy] at hS ⊢
    exact ⟨none, 0, [], Vec.nil, hS⟩
  rw [if_neg h8]
  by_cases hf : k = 9 ∨ k = 10 ∨ k = 13 ∨ k = 14
  · rw [if_pos hf]
    unfold wField tk
    simp only
    obtain ⟨y, hy, -⟩ := wInts_cut1 s
    rcases hf with rfl | rfl | rfl | rfl
    · repeat (first | refine SemW.run tblOk ?_ | refine jA (by omega) ?_ | refine jB (by omega) ?_ | refine jC (by omega) ?_ | refine jD (by omega) ?_ | refine jE rfl ?_ | refine jF (by omega) ?_ | (refine jG ?_; first | with_reducible (first | refine jH ?_ | refine jI ?_ | refine jJ ?_ | refine jK ?_ | refine jL ?_) | refine jM (by omega) ?_ | refine jN (by omega) ?_ | with_reducible refine jM rfl ?_ | refine jM (by assumption) ?_ | refine jN (by assumption) ?_ | refine jM (by decide) ?_ | refine jN (by decide) ?_) | refine jF (ptr_ok tblOk rfl rfl) ?_ | refine jO (fun _ => by kernel_rfl) ?_ | refine jF (by decide) ?_)
      refine SemW.draw tblOk mixed (fun w' => St w T0 (cmdH cb rr rb (hdC 9 q) none 0 s []) w') [8] [0, 1, 2, 3, 5, 6, 7, 4, 8] (by kernel_rfl) hS.drew ?_
      have hS := hS.drew
      repeat (first | refine SemW.run tblOk ?_ | refine jA (by omega) ?_ | refine jB (by omega) ?_ | refine jC (by omega) ?_ | refine jD (by omega) ?_ | refine jE rfl ?_ | refine jF (by omega) ?_ | (refine jG ?_; first | with_reducible (first | refine jH ?_ | refine jI ?_ | refine jJ ?_ | refine jK ?_ | refine jL ?_) | refine jM (by omega) ?_ | refine jN (by omega) ?_ | with_reducible refine jM rfl ?_ | refine jM (by assumption) ?_ | refine jN (by assumption) ?_ | refine jM (by decide) ?_ | refine jN (by decide) ?_) | refine jF (ptr_ok tblOk rfl rfl) ?_ | refine jO (fun _ => by kernel_rfl) ?_ | refine jF (by decide) ?_ | refine hS.ldC rfl ?_ | refine hS.ldnC rfl ?_)
      refine hS.al ?_
      intro r w3 _ hS
      refine Chk.mk (hS.sub (List.sublist_cons_self _ _)) ?_
      repeat (first | refine SemW.run tblOk ?_ | refine jA (by omega) ?_ | refine jB (by omega) ?_ | refine jC (by omega) ?_ | refine jD (by omega) ?_ | refine jE rfl ?_ | refine jF (by omega) ?_ | (refine jG ?_; first | with_reducible (first | refine jH ?_ | refine jI ?_ | refine jJ ?_ | refine jK ?_ | refine jL ?_) | refine jM (by omega) ?_ | refine jN (by omega) ?_ | with_reducible refine jM rfl ?_ | refine jM (by assumption) ?_ | refine jN (by assumption) ?_ | refine jM (by decide) ?_ | refine jN (by decide) ?_) | refine jF (ptr_ok tblOk rfl rfl) ?_ | refine jO (fun _ => by kernel_rfl) ?_ | refine jF (by decide) ?_ | refine hS.ldC rfl ?_ | refine hS.ldnC rfl ?_)
      refine InvG.mk ⟨f_wire_reader_int, ptr rr, by kernel_rfl, ?_⟩
      refine Cl.mono (rint_spec (b := cb) (s := s) (hS.part (L := (cmdH cb rr rb (hdC 9 q) none 0 s []))) (by omega) (offs := [3]) (hS.arr (b := r) (show r ∉ [cb, rr, rb] from nodup_chunk (L := (cmdH cb rr rb (hdC 9 q) none 0 s [])) hS)) (by simp) (by simp)) ?_
      rintro _ w4 hS'
      have hS := (hS.call (L := (cmdH cb rr rb (hdC 9 q) none 0 s [])) hS').sub (List.sublist_cons_self _ _)
      repeat (first | refine SemW.run tblOk ?_ | refine jA (by omega) ?_ | refine jB (by omega) ?_ | refine jC (by omega) ?_ | refine jD (by omega) ?_ | refine jE rfl ?_ | refine jF (by omega) ?_ | (refine jG ?_; first | with_reducible (first | refine jH ?_ | refine jI ?_ | refine jJ ?_ | refine jK ?_ | refine jL ?_) | refine jM (by omega) ?_ | refine jN (by omega) ?_ | with_reducible refine jM rfl ?_ | refine jM (by assumption) ?_ | refine jN (by assumption) ?_ | refine jM (by decide) ?_ | refine jN (by decide) ?_) | refine jF (ptr_ok tblOk rfl rfl) ?_ | refine jO (fun _ => by kernel_rfl) ?_ | refine jF (by decide) ?_)
      have hS : St w T0 (tgH cb (setL (cmdC (hdC 9 q) none 0) [3] ((wInts 1 s).1.map intV)) T_api_Command rr rb (wInts 1 s).2) _ := hS
      rw [hy] at hS ⊢
      exact ⟨none, 0, [], Vec.nil, hS⟩
    · repeat (first | refine SemW.run tblOk ?_ | refine jA (by omega) ?_ | refine jB (by omega) ?_ | refine jC (by omega) ?_ | refine jD (by omega) ?_ | refine jE rfl ?_ | refine jF (by omega) ?_ | (refine jG ?_; first | with_reducible (first | refine jH ?_ | refine jI ?_ | refine jJ ?_ | refine jK ?_ | refine jL ?_) | refine jM (by omega) ?_ | refine jN (by omega) ?_ | with_reducible refine jM rfl ?_ | refine jM (by assumption) ?_ | refine jN (by assumption) ?_ | refine jM (by decide) ?_ | refine jN (by decide) ?_) | refine jF (ptr_ok tblOk rfl rfl) ?_ | refine jO (fun _ => by kernel_rfl) ?_ | refine jF (by decide) ?_)
      refine SemW.draw tblOk mixed (fun w' => St w T0 (cmdH cb rr rb (hdC 10 q) none 0 s []) w') [8] [0, 1, 2, 3, 5, 6, 7, 4, 8] (by kernel_rfl) hS.drew ?_
      have hS := hS.drew
      repeat (first | refine SemW.run tblOk ?_ | refine jA (by omega) ?_ | refine jB (by omega) ?_ | refine jC (by omega) ?_ | refine jD (by omega) ?_ | refine jE rfl ?_ | refine jF (by omega) ?_ | (refine jG ?_; first | with_reducible (first | refine jH ?_ | refine jI ?_ | refine jJ ?_ | refine jK ?_ | refine jL ?_) | refine jM (by omega) ?_ | refine jN (by omega) ?_ | with_reducible refine jM rfl ?_ | refine jM (by assumption) ?_ | refine jN (by assumption) ?_ | refine jM (by decide) ?_ | refine jN (by decide) ?_) | refine jF (ptr_ok tblOk rfl rfl) ?_ | refine jO (fun _ => by kernel_rfl) ?_ | refine jF (by decide) ?_ | refine hS.ldC rfl ?_ | refine hS.ldnC rfl ?_)
      refine hS.al ?_
      intro r w3 _ hS
      refine Chk.mk (hS.sub (List.sublist_cons_self _ _)) ?_
      repeat (first | refine SemW.run tblOk ?_ | refine jA (by omega) ?_ | refine jB (by omega) ?_ | refine jC (by omega) ?_ | refine jD (by omega) ?_ | refine jE rfl ?_ | refine jF (by omega) ?_ | (refine jG ?_; first | with_reducible (first | refine jH ?_ | refine jI ?_ | refine jJ ?_ | refine jK ?_ | refine jL ?_) | refine jM (by omega) ?_ | refine jN (by omega) ?_ | with_reducible refine jM rfl ?_ | refine jM (by assumption) ?_ | refine jN (by assumption) ?_ | refine jM (by decide) ?_ | refine jN (by decide) ?_) | refine jF (ptr_ok tblOk rfl rfl) ?_ | refine jO (fun _ => by kernel_rfl) ?_ | refine jF (by decide) ?_ | refine hS.ldC rfl ?_ | refine hS.ldnC rfl ?_)
      refine InvG.mk ⟨f_wire_reader_int, ptr rr, by kernel_rfl, ?_⟩
      refine Cl.mono (rint_spec (b := cb) (s := s) (hS.part (L := (cmdH cb rr rb (hdC 10 q) none 0 s []))) (by omega) (offs := [3]) (hS.arr (b := r) (show r ∉ [cb, rr, rb] from nodup_chunk (L := (cmdH cb rr rb (hdC 10 q) none 0 s [])) hS)) (by simp) (by simp)) ?_
      rintro _ w4 hS'
      have hS := (hS.call (L := (cmdH cb rr rb (hdC 10 q) none 0 s [])) hS').sub (List.sublist_cons_self _ _)
      repeat (first | refine SemW.run tblOk ?_ | refine jA (by omega) ?_ | refine jB (by omega) ?_ | refine jC (by omega) ?_ | refine jD (by omega) ?_ | refine jE rfl ?_ | refine jF (by omega) ?_ | (refine jG ?_; first | with_reducible (first | refine jH ?_ | refine jI ?_ | refine jJ ?_ | refine jK ?_ | refine jL ?_) | refine jM (by omega) ?_ | refine jN (by omega) ?_ | with_reducible refine jM rfl ?_ | refine jM (by assumption) ?_ | refine jN (by assumption) ?_ | refine jM (by decide) ?_ | refine jN (by decide) ?_) | refine jF (ptr_ok tblOk rfl rfl) ?_ | refine jO (fun _ => by kernel_rfl) ?_ | refine jF (by decide) ?_)
      have hS : St w T0 (tgH cb (setL (cmdC (hdC 10 q) none 0) [3] ((wInts 1 s).1.map intV)) T_api_Command rr rb (wInts 1 s).2) _ := hS
      rw [hy] at hS ⊢
      exact ⟨none, 0, [], Vec.nil, hS⟩
    · repeat (first | refine SemW.run tblOk ?_ | refine jA (by omega) ?_ | refine jB (by omega) ?_ | refine jC (by omega) ?_ | refine jD (by omega) ?_ | refine jE rfl ?_ | refine jF (by omega) ?_ | (refine jG ?_; first | with_reducible (first | refine jH ?_ | refine jI ?_ | refine jJ ?_ | refine jK ?_ | refine jL ?_) | refine jM (by omega) ?_ | refine jN (by omega) ?_ | with_reducible refine jM rfl ?_ | refine jM (by assumption) ?_ | refine jN (by assumption) ?_ | refine jM (by decide) ?_ | refine jN (by decide) ?_) | refine jF (ptr_ok tblOk rfl rfl) ?_ | refine jO (fun _ => by kernel_rfl) ?_ | refine jF (by decide) ?_)
      refine SemW.draw tblOk mixed (fun w' => St w T0 (cmdH cb rr rb (hdC 13 q) none 0 s []) w') [8] [0, 1, 2, 3, 5, 6, 7, 4, 8] (by kernel_rfl) hS.drew ?_
      have hS := hS.drew
      repeat (first | refine SemW.run tblOk ?_ | refine jA (by omega) ?_ | refine jB (by omega) ?_ | refine jC (by omega) ?_ | refine jD (by omega) ?_ | refine jE rfl ?_ | refine jF (by omega) ?_ | (refine jG ?_; first | with_reducible (first | refine jH ?_ | refine jI ?_ | refine jJ ?_ | refine jK ?_ | refine jL ?_) | refine jM (by omega) ?_ | refine jN (by omega) ?_ | with_reducible refine jM rfl ?_ | refine jM (by assumption) ?_ | refine jN (by assumption) ?_ | refine jM (by decide) ?_ | refine jN (by decide) ?_) | refine jF (ptr_ok tblOk rfl rfl) ?_ | refine jO (fun _ => by kernel_rfl) ?_ | refine jF (by decide) ?_ | refine hS.ldC rfl ?_ | refine hS.ldnC rfl ?_)
      refine hS.al ?_
      intro r w3 _ hS
      refine Chk.mk (hS.sub (List.sublist_cons_self _ _)) ?_
      repeat (first | refine SemW.run tblOk ?_ | refine jA (by omega) ?_ | refine jB (by omega) ?_ | refine jC (by omega) ?_ | refine jD (by omega) ?_ | refine jE rfl ?_ | refine jF (by omega) ?_ | (refine jG ?_; first | with_reducible (first | refine jH ?_ | refine jI ?_ | refine jJ ?_ | refine jK ?_ | refine jL ?_) | refine jM (by omega) ?_ | refine jN (by omega) ?_ | with_reducible refine jM rfl ?_ | refine jM (by assumption) ?_ | refine jN (by assumption) ?_ | refine jM (by decide) ?_ | refine jN (by decide) ?_) | refine jF (ptr_ok tblOk rfl rfl) ?_ | refine jO (fun _ => by kernel_rfl) ?_ | refine jF (by decide) ?_ | refine hS.ldC rfl ?_ | refine hS.ldnC rfl ?_)
      refine InvG.mk ⟨f_wire_reader_int, ptr rr, by kernel_rfl, ?_⟩
      refine Cl.mono (rint_spec (b := cb) (s := s) (hS.part (L := (cmdH cb rr rb (hdC 13 q) none 0 s []))) (by omega) (offs := [3]) (hS.arr (b := r) (show r ∉ [cb, rr, rb] from nodup_chunk (L := (cmdH cb rr rb (hdC 13 q) none 0 s [])) hS)) (by simp) (by simp)) ?_
      rintro _ w4 hS'
      have hS := (hS.call (L := (cmdH cb rr rb (hdC 13 q) none 0 s [])) hS').sub (List.sublist_cons_self _ _)
      repeat (first | refine SemW.run tblOk ?_ | refine jA (by omega) ?_ | refine jB (by omega) ?_ | refine jC (by omega) ?_ | refine jD (by omega) ?_ | refine jE rfl ?_ | refine jF (by omega) ?_ | (refine jG ?_; first | with_reducible (first | refine jH ?_ | refine jI ?_ | refine jJ ?_ | refine jK ?_ | refine jL ?_) | refine jM (by omega) ?_ | refine jN (by omega) ?_ | with_reducible refine jM rfl ?_ | refine jM (by assumption) ?_ | refine jN (by assumption) ?_ | refine jM (by decide) ?_ | refine jN (by decide) ?_) | refine jF (ptr_ok tblOk rfl rfl) ?_ | refine jO (fun _ => by kernel_rfl) ?_ | refine jF (by decide) ?_)
      have hS : St w T0 (tgH cb (setL (cmdC (hdC 13 q) none 0) [3] ((wInts 1 s).1.map intV)) T_api_Command rr rb (wInts 1 s).2) _ := hS
      rw [hy] at hS ⊢
      exact ⟨none, 0, [], Vec.nil, hS⟩
    · repeat (first | refine SemW.run tblOk ?_ | refine jA (by omega) ?_ | refine jB (by omega) ?_ | refine jC (by omega) ?_ | refine jD (by omega) ?_ | refine jE rfl ?_ | refine jF (by omega) ?_ | (refine jG ?_; first | with_reducible (first | refine jH ?_ | refine jI ?_ | refine jJ ?_ | refine jK ?_ | refine jL ?_) | refine jM (by omega) ?_ | refine jN (by omega) ?_ | with_reducible refine jM rfl ?_ | refine jM (by assumption) ?_ | refine jN (by assumption) ?_ | refine jM (by decide) ?_ | refine jN (by decide) ?_) | refine jF (ptr_ok tblOk rfl rfl) ?_ | refine jO (fun _ => by kernel_rfl) ?_ | refine jF (by decide) ?_)
      refine SemW.draw tblOk mixed (fun w' => St w T0 (cmdH cb rr rb (hdC 14 q) none 0 s []) w') [8] [0, 1, 2, 3, 5, 6, 7, 4, 8] (by kernel_rfl) hS.drew ?_
      have hS := hS.drew
      repeat (first | refine SemW.run tblOk ?_ | refine jA (by omega) ?_ | refine jB (by omega) ?_ | refine jC (by omega) ?_ | refine jD (by omega) ?_ | refine jE rfl ?_ | refine jF (by omega) ?_ | (refine jG ?_; first | with_reducible (first | refine jH ?_ | refine jI ?_ | refine jJ ?_ | refine jK ?_ | refine jL ?_) | refine jM (by omega) ?_ | refine jN (by omega) ?_ | with_reducible refine jM rfl ?_ | refine jM (by assumption) ?_ | refine jN (by assumption) ?_ | refine jM (by decide) ?_ | refine jN (by decide) ?_) | refine jF (ptr_ok tblOk rfl rfl) ?_ | refine jO (fun _ => by kernel_rfl) ?_ | refine jF (by decide) ?_ | refine hS.ldC rfl ?_ | refine hS.ldnC rfl ?_)
      refine hS.al ?_
      intro r w3 _ hS
      refine Chk.mk (hS.sub (List.sublist_cons_self _ _)) ?_
      repeat (first | refine SemW.run tblOk ?_ | refine jA (by omega) ?_ | refine jB (by omega) ?_ | refine jC (by omega) ?_ | refine jD (by omega) ?_ | refine jE rfl ?_ | refine jF (by omega) ?_ | (refine jG ?_; first | with_reducible (first | refine jH ?_ | refine jI ?_ | refine jJ ?_ | refine jK ?_ | refine jL ?_) | refine jM (by omega) ?_ | refine jN (by omega) ?_ | with_reducible refine jM rfl ?_ | refine jM (by assumption) ?_ | refine jN (by assumption) ?_ | refine jM (by decide) ?_ | refine jN (by decide) ?_) | refine jF (ptr_ok tblOk rfl rfl) ?_ | refine jO (fun _ => by kernel_rfl) ?_ | refine jF (by decide) ?_ | refine hS.ldC rfl ?_ | refine hS.ldnC rfl ?_)
      refine InvG.mk ⟨f_wire_reader_int, ptr rr, by kernel_rfl, ?_⟩
      refine Cl.mono (rint_spec (b := cb) (s := s) (hS.part (L := (cmdH cb rr rb (hdC 14 q) none 0 s []))) (by omega) (offs := [3]) (hS.arr (b := r) (show r ∉ [cb, rr, rb] from nodup_chunk (L := (cmdH cb rr rb (hdC 14 q) none 0 s [])) hS)) (by simp) (by simp)) ?_
      rintro _ w4 hS'
      have hS := (hS.call (L := (cmdH cb rr rb (hdC 14 q) none 0 s [])) hS').sub (List.sublist_cons_self _ _)
      repeat (first | refine SemW.run tblOk ?_ | refine jA (by omega) ?_ | refine jB (by omega) ?_ | refine jC (by omega) ?_ | refine jD (by omega) ?_ | refine jE rfl ?_ | refine jF (by omega) ?_ | (refine jG ?_; first | with_reducible (first | refine jH ?_ | refine jI ?_ | refine jJ ?_ | refine jK ?_ | refine jL ?_) | refine jM (by omega) ?_ | refine jN (by omega) ?_ | with_reducible refine jM rfl ?_ | refine jM (by assumption) ?_ | refine jN (by assumption) ?_ | refine jM (by decide) ?_ | refine jN (by decide) ?_) | refine jF (ptr_ok tblOk rfl rfl) ?_ | refine jO (fun _ => by kernel_rfl) ?_ | refine jF (by decide) ?_)
      have hS : St w T0 (tgH cb (setL (cmdC (hdC 14 q) none 0) [3] ((wInts 1 s).1.map intV)) T_api_Command rr rb (wInts 1 s).2) _ := hS
      rw [hy] at hS ⊢
      exact ⟨none, 0, [], Vec.nil, hS⟩
  rw [if_neg hf]
  have hf9 : ¬ k = 9 := fun h => hf (.inl h)
  have hf10 : ¬ k = 10 := fun h => hf (.inr (.inl h))
  have hf13 : ¬ k = 13 := fun h => hf (.inr (.inr (.inl h)))
  have hf14 : ¬ k = 14 := fun h => hf (.inr (.inr (.inr h)))
  by_cases h12 : k = 12
  · subst h12
    rw [if_pos rfl]
    unfold wField tk
    simp only
    repeat (first | refine SemW.run tblOk ?_ | refine jA (by omega) ?_ | refine jB (by omega) ?_ | refine jC (by omega) ?_ | refine jD (by omega) ?_ | refine jE rfl ?_ | refine jF (by omega) ?_ | (refine jG ?_; first | with_reducible (first | refine jH ?_ | refine jI ?_ | refine jJ ?_ | refine jK ?_ | refine jL ?_) | refine jM (by omega) ?_ | refine jN (by omega) ?_ | with_reducible refine jM rfl ?_ | refine jM (by assumption) ?_ | refine jN (by assumption) ?_ | refine jM (by decide) ?_ | refine jN (by decide) ?_) | refine jF (ptr_ok tblOk rfl rfl) ?_ | refine jO (fun _ => by kernel_rfl) ?_ | refine jF (by decide) ?_)
    refine SemW.draw tblOk mixed (fun w' => St w T0 (cmdH cb rr rb (hdC 12 q) none 0 s []) w') [7] [0, 1, 2, 3, 4, 5, 6, 7] (by kernel_rfl) hS.drew ?_
    have hS := hS.drew
    repeat (first | refine SemW.run tblOk ?_ | refine jA (by omega) ?_ | refine jB (by omega) ?_ | refine jC (by omega) ?_ | refine jD (by omega) ?_ | refine jE rfl ?_ | refine jF (by omega) ?_ | (refine jG ?_; first | with_reducible (first | refine jH ?_ | refine jI ?_ | refine jJ ?_ | refine jK ?_ | refine jL ?_) | refine jM (by omega) ?_ | refine jN (by omega) ?_ | with_reducible refine jM rfl ?_ | refine jM (by assumption) ?_ | refine jN (by assumption) ?_ | refine jM (by decide) ?_ | refine jN (by decide) ?_) | refine jF (ptr_ok tblOk rfl rfl) ?_ | refine jO (fun _ => by kernel_rfl) ?_ | refine jF (by decide) ?_ | refine hS.ldC rfl ?_ | refine hS.ldnC rfl ?_)
    refine InvG.mk ⟨f_wire_reader_text, ptr rr, by kernel_rfl, ?_⟩
    refine Cl.mono (rtext_spec (b := cb) (s := s) (o := 18) (hS.part (L := cmdH cb rr rb (hdC 12 q) none 0 s [])) (by omega) (by simp)) ?_
    rintro _ w4 hS'
    have hS := hS.call (L := cmdH cb rr rb (hdC 12 q) none 0 s []) hS'
    repeat (first | refine SemW.run tblOk ?_ | refine jA (by omega) ?_ | refine jB (by omega) ?_ | refine jC (by omega) ?_ | refine jD (by omega) ?_ | refine jE rfl ?_ | refine jF (by omega) ?_ | (refine jG ?_; first | with_reducible (first | refine jH ?_ | refine jI ?_ | refine jJ ?_ | refine jK ?_ | refine jL ?_) | refine jM (by omega) ?_ | refine jN (by omega) ?_ | with_reducible refine jM rfl ?_ | refine jM (by assumption) ?_ | refine jN (by assumption) ?_ | refine jM (by decide) ?_ | refine jN (by decide) ?_) | refine jF (ptr_ok tblOk rfl rfl) ?_ | refine jO (fun _ => by kernel_rfl) ?_ | refine jF (by decide) ?_)
    exact ⟨none, 0, [], Vec.nil, hS⟩
  · rw [if_neg h12]
    unfold wField tk
    simp only
    obtain ⟨y, hy, -⟩ := wInts_cut1 s
    repeat (first | refine SemW.run tblOk ?_ | refine jA (by omega) ?_ | refine jB (by omega) ?_ | refine jC (by omega) ?_ | refine jD (by omega) ?_ | refine jE rfl ?_ | refine jF (by omega) ?_ | (refine jG ?_; first | with_reducible (first | refine jH ?_ | refine jI ?_ | refine jJ ?_ | refine jK ?_ | refine jL ?_) | refine jM (by omega) ?_ | refine jN (by omega) ?_ | with_reducible refine jM rfl ?_ | refine jM (by assumption) ?_ | refine jN (by assumption) ?_ | refine jM (by decide) ?_ | refine jN (by decide) ?_) | refine jF (ptr_ok tblOk rfl rfl) ?_ | refine jO (fun _ => by kernel_rfl) ?_ | refine jF (by decide) ?_)
    refine SemW.draw tblOk mixed (fun w' => St w T0 (cmdH cb rr rb (hdC k q) none 0 s []) w') [8] [0, 1, 2, 3, 5, 6, 7, 4, 8] (by kernel_rfl) hS.drew ?_
    have hS := hS.drew
    repeat (first | refine SemW.run tblOk ?_ | refine jA (by omega) ?_ | refine jB (by omega) ?_ | refine jC (by omega) ?_ | refine jD (by omega) ?_ | refine jE rfl ?_ | refine jF (by omega) ?_ | (refine jG ?_; first | with_reducible (first | refine jH ?_ | refine jI ?_ | refine jJ ?_ | refine jK ?_ | refine jL ?_) | refine jM (by omega) ?_ | refine jN (by omega) ?_ | with_reducible refine jM rfl ?_ | refine jM (by assumption) ?_ | refine jN (by assumption) ?_ | refine jM (by decide) ?_ | refine jN (by decide) ?_) | refine jF (ptr_ok tblOk rfl rfl) ?_ | refine jO (fun _ => by kernel_rfl) ?_ | refine jF (by decide) ?_ | refine hS.ldC rfl ?_ | refine hS.ldnC rfl ?_)
    refine hS.al ?_
    intro r w3 _ hS
    refine Chk.mk (hS.sub (List.sublist_cons_self _ _)) ?_
    repeat (first | refine SemW.run tblOk ?_ | refine jA (by omega) ?_ | refine jB (by omega) ?_ | refine jC (by omega) ?_ | refine jD (by omega) ?_ | refine jE rfl ?_ | refine jF (by omega) ?_ | (refine jG ?_; first | with_reducible (first | refine jH ?_ | refine jI ?_ | refine jJ ?_ | refine jK ?_ | refine jL ?_) | refine jM (by omega) ?_ | refine jN (by omega) ?_ | with_reducible refine jM rfl ?_ | refine jM (by assumption) ?_ | refine jN (by assumption) ?_ | refine jM (by decide) ?_ | refine jN (by decide) ?_) | refine jF (ptr_ok tblOk rfl rfl) ?_ | refine jO (fun _ => by kernel_rfl) ?_ | refine jF (by decide) ?_ | refine hS.ldC rfl ?_ | refine hS.ldnC rfl ?_)
    refine InvG.mk ⟨f_wire_reader_int, ptr rr, by kernel_rfl, ?_⟩
    refine Cl.mono (rint_spec (b := cb) (s := s) (hS.part (L := (cmdH cb rr rb (hdC k q) none 0 s []))) (by omega) (offs := [2]) (hS.arr (b := r) (show r ∉ [cb, rr, rb] from nodup_chunk (L := (cmdH cb rr rb (hdC k q) none 0 s [])) hS)) (by simp) (by simp)) ?_
    rintro _ w4 hS'
    have hS := (hS.call (L := (cmdH cb rr rb (hdC k q) none 0 s [])) hS').sub (List.sublist_cons_self _ _)
    repeat (first | refine SemW.run tblOk ?_ | refine jA (by omega) ?_ | refine jB (by omega) ?_ | refine jC (by omega) ?_ | refine jD (by omega) ?_ | refine jE rfl ?_ | refine jF (by omega) ?_ | (refine jG ?_; first | with_reducible (first | refine jH ?_ | refine jI ?_ | refine jJ ?_ | refine jK ?_ | refine jL ?_) | refine jM (by omega) ?_ | refine jN (by omega) ?_ | with_reducible refine jM rfl ?_ | refine jM (by assumption) ?_ | refine jN (by assumption) ?_ | refine jM (by decide) ?_ | refine jN (by decide) ?_) | refine jF (ptr_ok tblOk rfl rfl) ?_ | refine jO (fun _ => by kernel_rfl) ?_ | refine jF (by decide) ?_)
    have hS : St w T0 (tgH cb (setL (cmdC (hdC k q) none 0) [2] ((wInts 1 s).1.map intV)) T_api_Command rr rb (wInts 1 s).2) _ := hS
    rw [hy] at hS ⊢
    exact ⟨none, 0, [], Vec.nil, hS⟩
end Go.Proofs.YthpmmfapolcaiaaGreatDoor

/- == on arrays, item by item. -/
namespace Go.Eng
open Go
section
variable {P : Program} {T0 : Tbl}
def EqIt (n : Nat) (P : Program) (e : TypeId) (sz : Nat) (xs ys : List Value) (is : List Nat) (r : Bool) : Prop := ∀ k w, (Op.eqItems (k + n) e sz ⟨xs⟩ ⟨ys⟩ is).run P w = .ok r w
theorem EqIt.nil {n : Nat} {e : TypeId} {sz : Nat} {xs ys : List Value} : EqIt n P e sz xs ys [] true := fun k w => by simp [Op.eqItems]
theorem EqIt.cons {n : Nat} {e : TypeId} {sz i : Nat} {xs ys : List Value} {is : List Nat} {a b : Value} {r1 r2 : Bool} (h1 : PartIs P e xs (i * sz) a) (h2 : PartIs P e ys (i * sz) b) (h3 : EqV n P e a b r1) (h4 : EqIt n P e sz xs ys is r2) : EqIt n P e sz xs ys (i :: is) (r1 && r2) := fun k w => by
  have e4 := h4 k w
  simp only [Op.eqItems, Sem.run_bind, h1 w, h2 w, h3 k w, Result.andThen_ok]
  cases r1 with
  | false => simp
  | true => simp [e4]
theorem EqV.arr {n m sz : Nat} {t e : TypeId} {i : TypeInfo} (hu : P.underlying t = some (.array m e)) (hi : P.info? e = some i) (hs : P.cellsOf e = sz) {xs ys : List Value} {r : Bool} (h : EqIt n P e sz xs ys (List.range m) r) : EqV (n + 1) P t (.agg ⟨xs⟩) (.agg ⟨ys⟩) r := fun k w => by
  rw [show k + (n + 1) = (k + n) + 1 by omega, run_equalIn_array w (k + n) ⟨xs⟩ ⟨ys⟩ hu hi, hs]
  exact h k w
end
end Go.Eng

/- Comparing a slice with nil. -/
namespace Go.Eng
open Go
theorem eqlSlNil {P : Program} {T0 : Tbl} (hT : TOk P T0) {t e : TypeId} {sz : Nat} {i : TI} (hi : tf T0 t = some i) (hk : i.k = .slice e sz) {x y : Operand} {a : Option Addr} {n c : Nat} {K : Value → Prop} (hK : K (.bool a.isNone)) :
    PureRun P (do eqGuard .eql t x y (.slice a n c) (.slice none 0 0); binOp .eql t (.slice a n c) (.slice none 0 0)) K := by
  have h := und_of hT hi; rw [hk] at h
  have h2 : P.underlying t = some (.slice e) := h.1
  refine ⟨_, fun w => ?_, hK⟩
  rw [Sem.run_bind, run_eqGuard_of P .eql t x y _ _ w (by intro c h; cases h) (by intro h; cases h)]
  exact Lib.run_eql_slice_nil w t e a n c 0 0 h2
end Go.Eng

/- Package wire: rows and commands compared; what is small; rows cloned. -/
namespace Go.Proofs.YthpmmfapolcaiaaGreatDoor
open Go Go.Eng Go.Proofs
/-- Rows that can be read. -/
structure RowsAt (w : World) (a : Option Addr) (cap : Nat) (rs : List RowM) : Prop where
  arr : Arr w [] a (rs.flatMap rowC)
  cap : rs.length ≤ cap
theorem RowsAt.keep {w0 w : World} {H : Heap} (hS : St w0 [] H w) {a : Option Addr} {cap : Nat} {rs : List RowM} (h : RowsAt w0 a cap rs) : RowsAt w a cap rs := ⟨hS.arrOld h.arr, h.cap⟩
theorem RowsAt.pos {w : World} {a : Option Addr} {cap : Nat} {l : List RowM} (h : RowsAt w a cap l) (hl : 0 < l.length) : ∃ g off, a = some ⟨g, off, none⟩ := by
  have := flatRow_len l
  obtain ⟨g, off, hg, -, -⟩ := h.arr.get (j := 0) (by omega)
  exact ⟨g, off, hg⟩
theorem flatRow_take (rs : List RowM) (k : Nat) (hk : k < rs.length) : ((rs.flatMap rowC).drop (k * 5)).take 5 = rowC rs[k] := by
  apply List.ext_getElem?
  intro j
  rw [List.getElem?_take]
  split
  · next hj => rw [List.getElem?_drop, flatRow_at rs k hk j hj]
  · next hj => rw [List.getElem?_eq_none (by show 5 ≤ j; omega)]
theorem rowsAt_vec {w0 w : World} {T : List Nat} {H L : Heap} {F : Heap → Heap} (hS : St w0 T H w) [hc : Chunk H L F] {a : Option Addr} {n cap : Nat} {l : List RowM} (hv : Vec T_api_Row 5 a n cap (l.flatMap rowC) L) : RowsAt w a cap l := by
  have h1 := flatRow_len l
  have h2 := hv.len
  exact ⟨hv.arr hS (by simp), by have := hv.cap; omega⟩
theorem rowsC_one (l : List RowM) : (l.flatMap rowC).all Value.oneCell' = true := by
  induction l with
  | nil => rfl
  | cons p ps ih => rw [List.flatMap_cons, List.all_append, ih]; rfl
abbrev rowV (r : RowM) : Value := .agg ⟨rowC r⟩
theorem eqRow (a b : RowM) : EqV 2 Tryz.prog T_api_Row (rowV a) (rowV b) (decide (a = b)) := by
  have h : EqV 2 Tryz.prog T_api_Row (rowV a) (rowV b) (decide (a.num = b.num) && (decide (a.cab = b.cab) && (decide (a.zone = b.zone) && (decide (a.exit = b.exit) && (decide (a.seats = b.seats) && true))))) := by
    refine EqV.struct (d := [(T_int, 0), (T_int, 1), (T_int, 2), (T_bool, 3), (T_string, 4)]) (by kernel_rfl) (by kernel_rfl) (by kernel_rfl) ?_
    refine EqFs.cons (PartIs.one tblOk rfl rfl rfl) (PartIs.one tblOk rfl rfl rfl) (EqV.int tblOk rfl rfl _ _) ?_
    refine EqFs.cons (PartIs.one tblOk rfl rfl rfl) (PartIs.one tblOk rfl rfl rfl) (EqV.int tblOk rfl rfl _ _) ?_
    refine EqFs.cons (PartIs.one tblOk rfl rfl rfl) (PartIs.one tblOk rfl rfl rfl) (EqV.int tblOk rfl rfl _ _) ?_
    refine EqFs.cons (PartIs.one tblOk rfl rfl rfl) (PartIs.one tblOk rfl rfl rfl) (EqV.bool tblOk rfl rfl _ _) ?_
    exact EqFs.cons (PartIs.one tblOk rfl rfl rfl) (PartIs.one tblOk rfl rfl rfl) (EqV.str tblOk rfl rfl _ _) EqFs.nil
  have e : decide (a = b) = (decide (a.num = b.num) && (decide (a.cab = b.cab) && (decide (a.zone = b.zone) && (decide (a.exit = b.exit) && (decide (a.seats = b.seats) && true))))) := by
    rw [Bool.eq_iff_iff]
    simp only [decide_eq_true_eq, Bool.and_eq_true, and_true]
    constructor
    · rintro rfl; exact ⟨rfl, rfl, rfl, rfl, rfl⟩
    · rintro ⟨h1, h2, h3, h4, h5⟩
      cases a; cases b
      simp only at h1 h2 h3 h4 h5
      rw [h1, h2, h3, h4, h5]
  rw [e]; exact h
set_option maxHeartbeats 2000000 in
theorem equalRows_spec {w : World} {a b : Option Addr} {ca cb : Nat} {rs qs : List RowM} (hr : RowsAt w a ca rs) (hq : RowsAt w b cb qs) (hl : rs.length ≤ 1099511627776) :
    Cl Tryz.prog f_slices_Equal_api_Row_api_Row [.slice a rs.length ca, .slice b qs.length cb] w fun v w' => v = .bool (decide (rs = qs)) ∧ St w [] [] w' := by
  have hS := St.start w
  refine en_slices_Equal_api_Row_api_Row rfl ?_
  by_cases hlen : rs.length = qs.length
  · repeat (first | refine SemW.run tblOk ?_ | refine jA (by omega) ?_ | refine jB (by omega) ?_ | refine jC (by omega) ?_ | refine jD (by omega) ?_ | refine jE rfl ?_ | refine jF (by omega) ?_ | (refine jG ?_; first | with_reducible (first | refine jH ?_ | refine jI ?_ | refine jJ ?_ | refine jK ?_ | refine jL ?_) | refine jM (by omega) ?_ | refine jN (by omega) ?_ | with_reducible refine jM rfl ?_ | refine jM (by assumption) ?_ | refine jN (by assumption) ?_ | refine jM (by decide) ?_ | refine jN (by decide) ?_) | refine jF (ptr_ok tblOk rfl rfl) ?_ | refine jO (fun _ => by kernel_rfl) ?_ | refine jF (by decide) ?_)
    refine SemW.loop (fun k : Nat => [(0, .slice a rs.length ca), (1, .slice b qs.length cb), (12, .int .i64 rs.length), (13, .int .i64 k)])
      (fun k w' => (k ≤ rs.length ∧ rs.take k = qs.take k) ∧ St w [] [] w') (fun k => rs.length - k) 0
      ⟨rfl, rfl, rfl, rfl, trivial⟩ ⟨⟨Nat.zero_le _, rfl⟩, hS⟩ ?_
    clear hS
    rintro k w1 ⟨⟨hk, hno⟩, hS⟩
    by_cases hkl : k < rs.length
    · have hkq : k < qs.length := by omega
      obtain ⟨g, off, rfl⟩ := hr.pos (by omega)
      obtain ⟨g', off', rfl⟩ := hq.pos (by omega)
      have hat := flatRow_take rs k hkl
      have haq := flatRow_take qs k hkq
      have hsr := List.take_succ_eq_append_getElem hkl
      have hsq := List.take_succ_eq_append_getElem hkq
      have hne : ¬ rs[k] = qs[k] → ¬ rs = qs := fun h e => h (by subst e; rfl)
      generalize rs[k] = x at hat hsr hne
      generalize qs[k] = y at haq hsq hne
      repeat (first | refine SemW.run tblOk ?_ | refine jA (by omega) ?_ | refine jB (by omega) ?_ | refine jC (by omega) ?_ | refine jD (by omega) ?_ | refine jE rfl ?_ | refine jF (by omega) ?_ | (refine jG ?_; first | with_reducible (first | refine jH ?_ | refine jI ?_ | refine jJ ?_ | refine jK ?_ | refine jL ?_) | refine jM (by omega) ?_ | refine jN (by omega) ?_ | with_reducible refine jM rfl ?_ | refine jM (by assumption) ?_ | refine jN (by assumption) ?_ | refine jM (by decide) ?_ | refine jN (by decide) ?_) | refine jF (ptr_ok tblOk rfl rfl) ?_ | refine jO (fun _ => by kernel_rfl) ?_ | refine jF (by decide) ?_)
      refine SemW.draw tblOk mixed (fun w' => St w [] [] w') [] [0, 1, 2, 3, 4, 5, 6, 7, 8] (by kernel_rfl) hS.drew ?_
      have hS := hS.drew
      repeat (first | refine SemW.run tblOk ?_ | refine jA (by omega) ?_ | refine jB (by omega) ?_ | refine jC (by omega) ?_ | refine jD (by omega) ?_ | refine jE rfl ?_ | refine jF (by omega) ?_ | (refine jG ?_; first | with_reducible (first | refine jH ?_ | refine jI ?_ | refine jJ ?_ | refine jK ?_ | refine jL ?_) | refine jM (by omega) ?_ | refine jN (by omega) ?_ | with_reducible refine jM rfl ?_ | refine jM (by assumption) ?_ | refine jN (by assumption) ?_ | refine jM (by decide) ?_ | refine jN (by decide) ?_) | refine jF (ptr_ok tblOk rfl rfl) ?_ | refine jO (fun _ => by kernel_rfl) ?_ | refine jF (by decide) ?_ | refine hS.ldC rfl ?_ | refine hS.ldnC rfl ?_)
      refine Arr.ldnC hr.arr (k := k * 5) hat rfl rfl ?_
      repeat (first | refine SemW.run tblOk ?_ | refine jA (by omega) ?_ | refine jB (by omega) ?_ | refine jC (by omega) ?_ | refine jD (by omega) ?_ | refine jE rfl ?_ | refine jF (by omega) ?_ | (refine jG ?_; first | with_reducible (first | refine jH ?_ | refine jI ?_ | refine jJ ?_ | refine jK ?_ | refine jL ?_) | refine jM (by omega) ?_ | refine jN (by omega) ?_ | with_reducible refine jM rfl ?_ | refine jM (by assumption) ?_ | refine jN (by assumption) ?_ | refine jM (by decide) ?_ | refine jN (by decide) ?_) | refine jF (ptr_ok tblOk rfl rfl) ?_ | refine jO (fun _ => by kernel_rfl) ?_ | refine jF (by decide) ?_ | refine hS.ldC rfl ?_ | refine hS.ldnC rfl ?_)
      refine Arr.ldnC hq.arr (k := k * 5) haq rfl rfl ?_
      repeat (first | refine SemW.run tblOk ?_ | refine jA (by omega) ?_ | refine jB (by omega) ?_ | refine jC (by omega) ?_ | refine jD (by omega) ?_ | refine jE rfl ?_ | refine jF (by omega) ?_ | (refine jG ?_; first | with_reducible (first | refine jH ?_ | refine jI ?_ | refine jJ ?_ | refine jK ?_ | refine jL ?_) | refine jM (by omega) ?_ | refine jN (by omega) ?_ | with_reducible refine jM rfl ?_ | refine jM (by assumption) ?_ | refine jN (by assumption) ?_ | refine jM (by decide) ?_ | refine jN (by decide) ?_) | refine jF (ptr_ok tblOk rfl rfl) ?_ | refine jO (fun _ => by kernel_rfl) ?_ | refine jF (by decide) ?_ | refine hS.ldC rfl ?_ | refine hS.ldnC rfl ?_)
      refine neqAgg (n := 2) (by omega) (by kernel_rfl) (eqRow x y) ?_
      by_cases hxy : x = y
      · rw [decide_eq_true hxy, Bool.not_true]
        repeat (first | refine SemW.run tblOk ?_ | refine jA (by omega) ?_ | refine jB (by omega) ?_ | refine jC (by omega) ?_ | refine jD (by omega) ?_ | refine jE rfl ?_ | refine jF (by omega) ?_ | (refine jG ?_; first | with_reducible (first | refine jH ?_ | refine jI ?_ | refine jJ ?_ | refine jK ?_ | refine jL ?_) | refine jM (by omega) ?_ | refine jN (by omega) ?_ | with_reducible refine jM rfl ?_ | refine jM (by assumption) ?_ | refine jN (by assumption) ?_ | refine jM (by decide) ?_ | refine jN (by decide) ?_) | refine jF (ptr_ok tblOk rfl rfl) ?_ | refine jO (fun _ => by kernel_rfl) ?_ | refine jF (by decide) ?_ | refine hS.ldC rfl ?_ | refine hS.ldnC rfl ?_)
        exact ⟨k + 1, ⟨rfl, rfl, rfl, rfl, trivial⟩, ⟨⟨by omega, by rw [hsr, hsq, hno, hxy]⟩, hS⟩, by omega⟩
      · rw [decide_eq_false hxy, Bool.not_false]
        repeat (first | refine SemW.run tblOk ?_ | refine jA (by omega) ?_ | refine jB (by omega) ?_ | refine jC (by omega) ?_ | refine jD (by omega) ?_ | refine jE rfl ?_ | refine jF (by omega) ?_ | (refine jG ?_; first | with_reducible (first | refine jH ?_ | refine jI ?_ | refine jJ ?_ | refine jK ?_ | refine jL ?_) | refine jM (by omega) ?_ | refine jN (by omega) ?_ | with_reducible refine jM rfl ?_ | refine jM (by assumption) ?_ | refine jN (by assumption) ?_ | refine jM (by decide) ?_ | refine jN (by decide) ?_) | refine jF (ptr_ok tblOk rfl rfl) ?_ | refine jO (fun _ => by kernel_rfl) ?_ | refine jF (by decide) ?_ | refine hS.ldC rfl ?_ | refine hS.ldnC rfl ?_)
        exact ⟨by rw [decide_eq_false (hne hxy)], hS⟩
    · have hke : k = rs.length := by omega
      rw [hke, List.take_length, hlen, List.take_length] at hno
      repeat (first | refine SemW.run tblOk ?_ | refine jA (by omega) ?_ | refine jB (by omega) ?_ | refine jC (by omega) ?_ | refine jD (by omega) ?_ | refine jE rfl ?_ | refine jF (by omega) ?_ | (refine jG ?_; first | with_reducible (first | refine jH ?_ | refine jI ?_ | refine jJ ?_ | refine jK ?_ | refine jL ?_) | refine jM (by omega) ?_ | refine jN (by omega) ?_ | with_reducible refine jM rfl ?_ | refine jM (by assumption) ?_ | refine jN (by assumption) ?_ | refine jM (by decide) ?_ | refine jN (by decide) ?_) | refine jF (ptr_ok tblOk rfl rfl) ?_ | refine jO (fun _ => by kernel_rfl) ?_ | refine jF (by decide) ?_)
      exact ⟨by rw [decide_eq_true hno], hS⟩
  · repeat (first | refine SemW.run tblOk ?_ | refine jA (by omega) ?_ | refine jB (by omega) ?_ | refine jC (by omega) ?_ | refine jD (by omega) ?_ | refine jE rfl ?_ | refine jF (by omega) ?_ | (refine jG ?_; first | with_reducible (first | refine jH ?_ | refine jI ?_ | refine jJ ?_ | refine jK ?_ | refine jL ?_) | refine jM (by omega) ?_ | refine jN (by omega) ?_ | with_reducible refine jM rfl ?_ | refine jM (by assumption) ?_ | refine jN (by assumption) ?_ | refine jM (by decide) ?_ | refine jN (by decide) ?_) | refine jF (ptr_ok tblOk rfl rfl) ?_ | refine jO (fun _ => by kernel_rfl) ?_ | refine jF (by decide) ?_)
    exact ⟨by rw [decide_eq_false (fun e => hlen (by rw [e]))], hS⟩
theorem small1_spec {w : World} (r : RowM) (hr : r.seats.length ≤ 70368744177664) : Cl Tryz.prog f_wire_small_1 [rowV r] w fun v w' => v = .bool (decide (40 < r.seats.length)) ∧ St w [] [] w' := by
  have hS := St.start w
  unfold rowV rowC
  refine en_wire_small_1 rfl ?_
  repeat (first | refine SemW.run tblOk ?_ | refine jA (by omega) ?_ | refine jB (by omega) ?_ | refine jC (by omega) ?_ | refine jD (by omega) ?_ | refine jE rfl ?_ | refine jF (by omega) ?_ | (refine jG ?_; first | with_reducible (first | refine jH ?_ | refine jI ?_ | refine jJ ?_ | refine jK ?_ | refine jL ?_) | refine jM (by omega) ?_ | refine jN (by omega) ?_ | with_reducible refine jM rfl ?_ | refine jM (by assumption) ?_ | refine jN (by assumption) ?_ | refine jM (by decide) ?_ | refine jN (by decide) ?_) | refine jF (ptr_ok tblOk rfl rfl) ?_ | refine jO (fun _ => by kernel_rfl) ?_ | refine jF (by decide) ?_)
  refine hS.al ?_
  intro b w1 _ hS
  repeat (first | refine SemW.run tblOk ?_ | refine jA (by omega) ?_ | refine jB (by omega) ?_ | refine jC (by omega) ?_ | refine jD (by omega) ?_ | refine jE rfl ?_ | refine jF (by omega) ?_ | (refine jG ?_; first | with_reducible (first | refine jH ?_ | refine jI ?_ | refine jJ ?_ | refine jK ?_ | refine jL ?_) | refine jM (by omega) ?_ | refine jN (by omega) ?_ | with_reducible refine jM rfl ?_ | refine jM (by assumption) ?_ | refine jN (by assumption) ?_ | refine jM (by decide) ?_ | refine jN (by decide) ?_) | refine jF (ptr_ok tblOk rfl rfl) ?_ | refine jO (fun _ => by kernel_rfl) ?_ | refine jF (by decide) ?_ | refine hS.ld rfl ?_ | refine hS.ldn rfl ?_ | (refine hS.st rfl rfl ?_; intro _ hS))
  refine ⟨?_, hS.nil⟩
  rw [Value.bool.injEq, decide_eq_decide]
  omega
def longRow (rs : List RowM) : Bool := rs.any fun r => decide (40 < r.seats.length)
abbrev smallF : Value := .func (.func f_wire_small_1) ⟨[]⟩ ⟨[]⟩
theorem indexRow_spec {w : World} {a : Option Addr} {cap : Nat} {l : List RowM} (ha : RowsAt w a cap l) (hlen : l.length ≤ 16777216) (hs : ∀ r ∈ l, r.seats.length ≤ 70368744177664) :
    Cl Tryz.prog f_slices_IndexFunc_api_Row_api_Row [.slice a l.length cap, smallF] w fun v w' => (∃ n, v = .int .i64 n ∧ (0 ≤ n ↔ longRow l = true)) ∧ St w [] [] w' := by
  have hS := St.start w
  refine en_slices_IndexFunc_api_Row_api_Row rfl ?_
  repeat (first | refine SemW.run tblOk ?_ | refine jA (by omega) ?_ | refine jB (by omega) ?_ | refine jC (by omega) ?_ | refine jD (by omega) ?_ | refine jE rfl ?_ | refine jF (by omega) ?_ | (refine jG ?_; first | with_reducible (first | refine jH ?_ | refine jI ?_ | refine jJ ?_ | refine jK ?_ | refine jL ?_) | refine jM (by omega) ?_ | refine jN (by omega) ?_ | with_reducible refine jM rfl ?_ | refine jM (by assumption) ?_ | refine jN (by assumption) ?_ | refine jM (by decide) ?_ | refine jN (by decide) ?_) | refine jF (ptr_ok tblOk rfl rfl) ?_ | refine jO (fun _ => by kernel_rfl) ?_ | refine jF (by decide) ?_)
  refine SemW.loop (fun k : Nat => [(0, .slice a l.length cap), (1, smallF), (7, .int .i64 l.length), (8, .int .i64 k)])
    (fun k w' => (k ≤ l.length ∧ longRow (l.take k) = false) ∧ St w [] [] w') (fun k => l.length - k) 0
    ⟨rfl, rfl, rfl, rfl, trivial⟩ ⟨⟨Nat.zero_le _, rfl⟩, hS⟩ ?_
  clear hS
  rintro k w1 ⟨⟨hk, hno⟩, hS⟩
  by_cases hkl : k < l.length
  · obtain ⟨g, off, rfl⟩ := ha.pos (by omega)
    have hat := flatRow_take l k hkl
    have hsucc := List.take_succ_eq_append_getElem hkl
    have hmem : l[k] ∈ l := List.getElem_mem hkl
    have hx := hs l[k] hmem
    generalize l[k] = x at hat hsucc hmem hx
    repeat (first | refine SemW.run tblOk ?_ | refine jA (by omega) ?_ | refine jB (by omega) ?_ | refine jC (by omega) ?_ | refine jD (by omega) ?_ | refine jE rfl ?_ | refine jF (by omega) ?_ | (refine jG ?_; first | with_reducible (first | refine jH ?_ | refine jI ?_ | refine jJ ?_ | refine jK ?_ | refine jL ?_) | refine jM (by omega) ?_ | refine jN (by omega) ?_ | with_reducible refine jM rfl ?_ | refine jM (by assumption) ?_ | refine jN (by assumption) ?_ | refine jM (by decide) ?_ | refine jN (by decide) ?_) | refine jF (ptr_ok tblOk rfl rfl) ?_ | refine jO (fun _ => by kernel_rfl) ?_ | refine jF (by decide) ?_)
    refine Arr.ldn hS ha.arr rfl (k := k * 5) hat rfl ?_
    repeat (first | refine SemW.run tblOk ?_ | refine jA (by omega) ?_ | refine jB (by omega) ?_ | refine jC (by omega) ?_ | refine jD (by omega) ?_ | refine jE rfl ?_ | refine jF (by omega) ?_ | (refine jG ?_; first | with_reducible (first | refine jH ?_ | refine jI ?_ | refine jJ ?_ | refine jK ?_ | refine jL ?_) | refine jM (by omega) ?_ | refine jN (by omega) ?_ | with_reducible refine jM rfl ?_ | refine jM (by assumption) ?_ | refine jN (by assumption) ?_ | refine jM (by decide) ?_ | refine jN (by decide) ?_) | refine jF (ptr_ok tblOk rfl rfl) ?_ | refine jO (fun _ => by kernel_rfl) ?_ | refine jF (by decide) ?_)
    refine (small1_spec x hx).mono ?_
    rintro _ w2 ⟨rfl, hS'⟩
    have hS := hS.call0 hS'
    by_cases hx : 40 < x.seats.length
    · rw [decide_eq_true hx]
      repeat (first | refine SemW.run tblOk ?_ | refine jA (by omega) ?_ | refine jB (by omega) ?_ | refine jC (by omega) ?_ | refine jD (by omega) ?_ | refine jE rfl ?_ | refine jF (by omega) ?_ | (refine jG ?_; first | with_reducible (first | refine jH ?_ | refine jI ?_ | refine jJ ?_ | refine jK ?_ | refine jL ?_) | refine jM (by omega) ?_ | refine jN (by omega) ?_ | with_reducible refine jM rfl ?_ | refine jM (by assumption) ?_ | refine jN (by assumption) ?_ | refine jM (by decide) ?_ | refine jN (by decide) ?_) | refine jF (ptr_ok tblOk rfl rfl) ?_ | refine jO (fun _ => by kernel_rfl) ?_ | refine jF (by decide) ?_)
      refine ⟨⟨_, rfl, ?_⟩, hS⟩
      have : longRow l = true := by
        unfold longRow
        rw [List.any_eq_true]
        exact ⟨x, hmem, decide_eq_true hx⟩
      rw [this]; simp
    · rw [decide_eq_false hx]
      repeat (first | refine SemW.run tblOk ?_ | refine jA (by omega) ?_ | refine jB (by omega) ?_ | refine jC (by omega) ?_ | refine jD (by omega) ?_ | refine jE rfl ?_ | refine jF (by omega) ?_ | (refine jG ?_; first | with_reducible (first | refine jH ?_ | refine jI ?_ | refine jJ ?_ | refine jK ?_ | refine jL ?_) | refine jM (by omega) ?_ | refine jN (by omega) ?_ | with_reducible refine jM rfl ?_ | refine jM (by assumption) ?_ | refine jN (by assumption) ?_ | refine jM (by decide) ?_ | refine jN (by decide) ?_) | refine jF (ptr_ok tblOk rfl rfl) ?_ | refine jO (fun _ => by kernel_rfl) ?_ | refine jF (by decide) ?_)
      refine ⟨k + 1, ⟨rfl, rfl, rfl, rfl, trivial⟩, ⟨⟨by omega, ?_⟩, hS⟩, by omega⟩
      rw [hsucc]
      unfold longRow at hno ⊢
      rw [List.any_append, hno]
      simp only [List.any_cons, List.any_nil, Bool.or_false, Bool.false_or]
      exact decide_eq_false hx
  · have hke : k = l.length := by omega
    rw [hke, List.take_length] at hno
    repeat (first | refine SemW.run tblOk ?_ | refine jA (by omega) ?_ | refine jB (by omega) ?_ | refine jC (by omega) ?_ | refine jD (by omega) ?_ | refine jE rfl ?_ | refine jF (by omega) ?_ | (refine jG ?_; first | with_reducible (first | refine jH ?_ | refine jI ?_ | refine jJ ?_ | refine jK ?_ | refine jL ?_) | refine jM (by omega) ?_ | refine jN (by omega) ?_ | with_reducible refine jM rfl ?_ | refine jM (by assumption) ?_ | refine jN (by assumption) ?_ | refine jM (by decide) ?_ | refine jN (by decide) ?_) | refine jF (ptr_ok tblOk rfl rfl) ?_ | refine jO (fun _ => by kernel_rfl) ?_ | refine jF (by decide) ?_)
    refine ⟨⟨_, rfl, ?_⟩, hS⟩
    rw [hno]; simp
theorem containsRow_spec {w : World} {a : Option Addr} {cap : Nat} {l : List RowM} (ha : RowsAt w a cap l) (hlen : l.length ≤ 16777216) (hs : ∀ r ∈ l, r.seats.length ≤ 70368744177664) :
    Cl Tryz.prog f_slices_ContainsFunc_api_Row_api_Row [.slice a l.length cap, smallF] w fun v w' => v = .bool (longRow l) ∧ St w [] [] w' := by
  refine en_slices_ContainsFunc_api_Row_api_Row rfl ?_
  repeat (first | refine SemW.run tblOk ?_ | refine jA (by omega) ?_ | refine jB (by omega) ?_ | refine jC (by omega) ?_ | refine jD (by omega) ?_ | refine jE rfl ?_ | refine jF (by omega) ?_ | (refine jG ?_; first | with_reducible (first | refine jH ?_ | refine jI ?_ | refine jJ ?_ | refine jK ?_ | refine jL ?_) | refine jM (by omega) ?_ | refine jN (by omega) ?_ | with_reducible refine jM rfl ?_ | refine jM (by assumption) ?_ | refine jN (by assumption) ?_ | refine jM (by decide) ?_ | refine jN (by decide) ?_) | refine jF (ptr_ok tblOk rfl rfl) ?_ | refine jO (fun _ => by kernel_rfl) ?_ | refine jF (by decide) ?_)
  refine (indexRow_spec ha hlen hs).mono ?_
  rintro _ w1 ⟨⟨n, rfl, hn⟩, hS⟩
  repeat (first | refine SemW.run tblOk ?_ | refine jA (by omega) ?_ | refine jB (by omega) ?_ | refine jC (by omega) ?_ | refine jD (by omega) ?_ | refine jE rfl ?_ | refine jF (by omega) ?_ | (refine jG ?_; first | with_reducible (first | refine jH ?_ | refine jI ?_ | refine jJ ?_ | refine jK ?_ | refine jL ?_) | refine jM (by omega) ?_ | refine jN (by omega) ?_ | with_reducible refine jM rfl ?_ | refine jM (by assumption) ?_ | refine jN (by assumption) ?_ | refine jM (by decide) ?_ | refine jN (by decide) ?_) | refine jF (ptr_ok tblOk rfl rfl) ?_ | refine jO (fun _ => by kernel_rfl) ?_ | refine jF (by decide) ?_)
  refine ⟨?_, hS⟩
  rw [Value.bool.injEq, Bool.eq_iff_iff, decide_eq_true_iff]
  exact hn
set_option maxHeartbeats 2000000 in
theorem cloneRow_spec {w : World} {a : Option Addr} {cap : Nat} {l : List RowM} (ha : RowsAt w a cap l) (hlen : l.length ≤ 16777216) :
    Cl Tryz.prog f_slices_Clone_api_Row_api_Row [.slice a l.length cap] w fun v w' => ∃ a' c' L, v = .slice a' l.length c' ∧ Vec T_api_Row 5 a' l.length c' (l.flatMap rowC) L ∧ St w [] L w' := by
  have hS := St.start w
  refine en_slices_Clone_api_Row_api_Row rfl ?_
  rcases a with _ | p
  · have hl : l = [] := by
      cases l with
      | nil => rfl
      | cons x l => obtain ⟨g, off, h⟩ := ha.pos (by simp); cases h
    subst hl
    repeat (first | refine SemW.run tblOk ?_ | refine jA (by omega) ?_ | refine jB (by omega) ?_ | refine jC (by omega) ?_ | refine jD (by omega) ?_ | refine jE rfl ?_ | refine jF (by omega) ?_ | (refine jG ?_; first | with_reducible (first | refine jH ?_ | refine jI ?_ | refine jJ ?_ | refine jK ?_ | refine jL ?_) | refine jM (by omega) ?_ | refine jN (by omega) ?_ | with_reducible refine jM rfl ?_ | refine jM (by assumption) ?_ | refine jN (by assumption) ?_ | refine jM (by decide) ?_ | refine jN (by decide) ?_) | refine jF (ptr_ok tblOk rfl rfl) ?_ | refine jO (fun _ => by kernel_rfl) ?_ | refine jF (by decide) ?_)
    refine eqlSlNil tblOk rfl rfl ?_
    repeat (first | refine SemW.run tblOk ?_ | refine jA (by omega) ?_ | refine jB (by omega) ?_ | refine jC (by omega) ?_ | refine jD (by omega) ?_ | refine jE rfl ?_ | refine jF (by omega) ?_ | (refine jG ?_; first | with_reducible (first | refine jH ?_ | refine jI ?_ | refine jJ ?_ | refine jK ?_ | refine jL ?_) | refine jM (by omega) ?_ | refine jN (by omega) ?_ | with_reducible refine jM rfl ?_ | refine jM (by assumption) ?_ | refine jN (by assumption) ?_ | refine jM (by decide) ?_ | refine jN (by decide) ?_) | refine jF (ptr_ok tblOk rfl rfl) ?_ | refine jO (fun _ => by kernel_rfl) ?_ | refine jF (by decide) ?_)
    exact ⟨_, _, [], rfl, Vec.nil, hS⟩
  · repeat (first | refine SemW.run tblOk ?_ | refine jA (by omega) ?_ | refine jB (by omega) ?_ | refine jC (by omega) ?_ | refine jD (by omega) ?_ | refine jE rfl ?_ | refine jF (by omega) ?_ | (refine jG ?_; first | with_reducible (first | refine jH ?_ | refine jI ?_ | refine jJ ?_ | refine jK ?_ | refine jL ?_) | refine jM (by omega) ?_ | refine jN (by omega) ?_ | with_reducible refine jM rfl ?_ | refine jM (by assumption) ?_ | refine jN (by assumption) ?_ | refine jM (by decide) ?_ | refine jN (by decide) ?_) | refine jF (ptr_ok tblOk rfl rfl) ?_ | refine jO (fun _ => by kernel_rfl) ?_ | refine jF (by decide) ?_)
    refine eqlSlNil tblOk rfl rfl ?_
    repeat (first | refine SemW.run tblOk ?_ | refine jA (by omega) ?_ | refine jB (by omega) ?_ | refine jC (by omega) ?_ | refine jD (by omega) ?_ | refine jE rfl ?_ | refine jF (by omega) ?_ | (refine jG ?_; first | with_reducible (first | refine jH ?_ | refine jI ?_ | refine jJ ?_ | refine jK ?_ | refine jL ?_) | refine jM (by omega) ?_ | refine jN (by omega) ?_ | with_reducible refine jM rfl ?_ | refine jM (by assumption) ?_ | refine jN (by assumption) ?_ | refine jM (by decide) ?_ | refine jN (by decide) ?_) | refine jF (ptr_ok tblOk rfl rfl) ?_ | refine jO (fun _ => by kernel_rfl) ?_ | refine jF (by decide) ?_)
    refine hS.al ?_
    intro r w1 _ hS
    have hv : Vec T_api_Row 5 (some ⟨r, 0, none⟩) 0 0 [] [(r, .cells ⟨[]⟩ T_api_Row (0, 0))] := Vec.row r 0 0 [] [] rfl rfl (Nat.le_refl _)
    repeat (first | refine SemW.run tblOk ?_ | refine jA (by omega) ?_ | refine jB (by omega) ?_ | refine jC (by omega) ?_ | refine jD (by omega) ?_ | refine jE rfl ?_ | refine jF (by omega) ?_ | (refine jG ?_; first | with_reducible (first | refine jH ?_ | refine jI ?_ | refine jJ ?_ | refine jK ?_ | refine jL ?_) | refine jM (by omega) ?_ | refine jN (by omega) ?_ | with_reducible refine jM rfl ?_ | refine jM (by assumption) ?_ | refine jN (by assumption) ?_ | refine jM (by decide) ?_ | refine jN (by decide) ?_) | refine jF (ptr_ok tblOk rfl rfl) ?_ | refine jO (fun _ => by kernel_rfl) ?_ | refine jF (by decide) ?_)
    refine St.app (sz := 5) (m := l.length) tblOk rfl rfl rfl rfl hS hv (news := l.flatMap rowC) (flatRow_len l) (hS.arrOld ha.arr) (rowsC_one l) (by show (_ + _) * 48 ≤ _; omega) (by omega) ?_
    intro a1 c1 L1 w2 hv hS
    rw [List.nil_append, Nat.zero_add] at hv
    rw [Nat.zero_add]
    repeat (first | refine SemW.run tblOk ?_ | refine jA (by omega) ?_ | refine jB (by omega) ?_ | refine jC (by omega) ?_ | refine jD (by omega) ?_ | refine jE rfl ?_ | refine jF (by omega) ?_ | (refine jG ?_; first | with_reducible (first | refine jH ?_ | refine jI ?_ | refine jJ ?_ | refine jK ?_ | refine jL ?_) | refine jM (by omega) ?_ | refine jN (by omega) ?_ | with_reducible refine jM rfl ?_ | refine jM (by assumption) ?_ | refine jN (by assumption) ?_ | refine jM (by decide) ?_ | refine jN (by decide) ?_) | refine jF (ptr_ok tblOk rfl rfl) ?_ | refine jO (fun _ => by kernel_rfl) ?_ | refine jF (by decide) ?_)
    exact ⟨a1, c1, L1, rfl, hv, hS⟩
end Go.Proofs.YthpmmfapolcaiaaGreatDoor

/- Package wire: small, same. -/
namespace Go.Proofs.YthpmmfapolcaiaaGreatDoor
open Go Go.Eng Go.Proofs
abbrev cmdV (c : CmdM) (a : Option Addr) (cap : Nat) : Value := .agg ⟨cmdC c a cap⟩
theorem small_eq (c : CmdM) : smallC c = (decide (c.rows.length ≤ 20) && decide (c.text.length ≤ 200) && !longRow c.rows) := by
  unfold smallC longRow
  congr 1
  rw [Bool.eq_iff_iff, List.all_eq_true, Bool.not_eq_true', ← Bool.not_eq_true, List.any_eq_true]
  simp only [decide_eq_true_eq]
  constructor
  · rintro h ⟨r, hr, h2⟩; have := h r hr; omega
  · intro h r hr
    exact Nat.le_of_not_lt fun h2 => h ⟨r, hr, h2⟩
set_option maxHeartbeats 2000000 in
theorem wsmall_spec {w : World} (c : CmdM) {a : Option Addr} {cap : Nat} (ha : RowsAt w a cap c.rows) (hl : c.rows.length ≤ 16777216) (ht : c.text.length ≤ 70368744177664) (hs : ∀ r ∈ c.rows, r.seats.length ≤ 70368744177664) :
    Cl Tryz.prog f_wire_small [cmdV c a cap] w fun v w' => v = .bool (smallC c) ∧ St w [] [] w' := by
  have hS := St.start w
  rw [small_eq]
  refine en_wire_small rfl ?_
  repeat (first | refine SemW.run tblOk ?_ | refine jA (by omega) ?_ | refine jB (by omega) ?_ | refine jC (by omega) ?_ | refine jD (by omega) ?_ | refine jE rfl ?_ | refine jF (by omega) ?_ | (refine jG ?_; first | with_reducible (first | refine jH ?_ | refine jI ?_ | refine jJ ?_ | refine jK ?_ | refine jL ?_) | refine jM (by omega) ?_ | refine jN (by omega) ?_ | with_reducible refine jM rfl ?_ | refine jM (by assumption) ?_ | refine jN (by assumption) ?_ | refine jM (by decide) ?_ | refine jN (by decide) ?_) | refine jF (ptr_ok tblOk rfl rfl) ?_ | refine jO (fun _ => by kernel_rfl) ?_ | refine jF (by decide) ?_)
  refine hS.al ?_
  intro b w1 _ hS
  by_cases h1 : c.rows.length ≤ 20
  · by_cases h2 : c.text.length ≤ 200
    · rw [decide_eq_true h1, decide_eq_true h2]
      repeat (first | refine SemW.run tblOk ?_ | refine jA (by omega) ?_ | refine jB (by omega) ?_ | refine jC (by omega) ?_ | refine jD (by omega) ?_ | refine jE rfl ?_ | refine jF (by omega) ?_ | (refine jG ?_; first | with_reducible (first | refine jH ?_ | refine jI ?_ | refine jJ ?_ | refine jK ?_ | refine jL ?_) | refine jM (by omega) ?_ | refine jN (by omega) ?_ | with_reducible refine jM rfl ?_ | refine jM (by assumption) ?_ | refine jN (by assumption) ?_ | refine jM (by decide) ?_ | refine jN (by decide) ?_) | refine jF (ptr_ok tblOk rfl rfl) ?_ | refine jO (fun _ => by kernel_rfl) ?_ | refine jF (by decide) ?_ | refine hS.ld rfl ?_ | refine hS.ldn rfl ?_ | (refine hS.st rfl rfl ?_; intro _ hS))
      refine (containsRow_spec (ha.keep hS.nil) hl hs).mono ?_
      rintro _ w2 ⟨rfl, hS'⟩
      have hS := hS.call0 hS'
      repeat (first | refine SemW.run tblOk ?_ | refine jA (by omega) ?_ | refine jB (by omega) ?_ | refine jC (by omega) ?_ | refine jD (by omega) ?_ | refine jE rfl ?_ | refine jF (by omega) ?_ | (refine jG ?_; first | with_reducible (first | refine jH ?_ | refine jI ?_ | refine jJ ?_ | refine jK ?_ | refine jL ?_) | refine jM (by omega) ?_ | refine jN (by omega) ?_ | with_reducible refine jM rfl ?_ | refine jM (by assumption) ?_ | refine jN (by assumption) ?_ | refine jM (by decide) ?_ | refine jN (by decide) ?_) | refine jF (ptr_ok tblOk rfl rfl) ?_ | refine jO (fun _ => by kernel_rfl) ?_ | refine jF (by decide) ?_ | refine hS.ld rfl ?_ | refine hS.ldn rfl ?_ | (refine hS.st rfl rfl ?_; intro _ hS))
      exact ⟨rfl, hS.nil⟩
    · rw [decide_eq_false h2]
      repeat (first | refine SemW.run tblOk ?_ | refine jA (by omega) ?_ | refine jB (by omega) ?_ | refine jC (by omega) ?_ | refine jD (by omega) ?_ | refine jE rfl ?_ | refine jF (by omega) ?_ | (refine jG ?_; first | with_reducible (first | refine jH ?_ | refine jI ?_ | refine jJ ?_ | refine jK ?_ | refine jL ?_) | refine jM (by omega) ?_ | refine jN (by omega) ?_ | with_reducible refine jM rfl ?_ | refine jM (by assumption) ?_ | refine jN (by assumption) ?_ | refine jM (by decide) ?_ | refine jN (by decide) ?_) | refine jF (ptr_ok tblOk rfl rfl) ?_ | refine jO (fun _ => by kernel_rfl) ?_ | refine jF (by decide) ?_ | refine hS.ld rfl ?_ | refine hS.ldn rfl ?_ | (refine hS.st rfl rfl ?_; intro _ hS))
      exact ⟨by rw [Bool.and_false, Bool.false_and], hS.nil⟩
  · rw [decide_eq_false h1]
    repeat (first | refine SemW.run tblOk ?_ | refine jA (by omega) ?_ | refine jB (by omega) ?_ | refine jC (by omega) ?_ | refine jD (by omega) ?_ | refine jE rfl ?_ | refine jF (by omega) ?_ | (refine jG ?_; first | with_reducible (first | refine jH ?_ | refine jI ?_ | refine jJ ?_ | refine jK ?_ | refine jL ?_) | refine jM (by omega) ?_ | refine jN (by omega) ?_ | with_reducible refine jM rfl ?_ | refine jM (by assumption) ?_ | refine jN (by assumption) ?_ | refine jM (by decide) ?_ | refine jN (by decide) ?_) | refine jF (ptr_ok tblOk rfl rfl) ?_ | refine jO (fun _ => by kernel_rfl) ?_ | refine jF (by decide) ?_ | refine hS.ld rfl ?_ | refine hS.ldn rfl ?_ | (refine hS.st rfl rfl ?_; intro _ hS))
    exact ⟨by rw [Bool.false_and, Bool.false_and], hS.nil⟩
theorem eqWho (a : Int) (f i : Bool) (b : Int) (g j : Bool) : EqV 2 Tryz.prog T_api_Who (.agg ⟨[.int .i64 a, .bool f, .bool i]⟩) (.agg ⟨[.int .i64 b, .bool g, .bool j]⟩) (decide (a = b) && (decide (f = g) && (decide (i = j) && true))) := by
  refine EqV.struct (d := [(T_int, 0), (T_bool, 1), (T_bool, 2)]) (by kernel_rfl) (by kernel_rfl) (by kernel_rfl) ?_
  refine EqFs.cons (PartIs.one tblOk rfl rfl rfl) (PartIs.one tblOk rfl rfl rfl) (EqV.int tblOk rfl rfl _ _) ?_
  refine EqFs.cons (PartIs.one tblOk rfl rfl rfl) (PartIs.one tblOk rfl rfl rfl) (EqV.bool tblOk rfl rfl _ _) ?_
  exact EqFs.cons (PartIs.one tblOk rfl rfl rfl) (PartIs.one tblOk rfl rfl rfl) (EqV.bool tblOk rfl rfl _ _) EqFs.nil
theorem eqLim (a b c d a' b' c' d' : Int) : EqV 2 Tryz.prog T_4_int (.agg ⟨[.int .i64 a, .int .i64 b, .int .i64 c, .int .i64 d]⟩) (.agg ⟨[.int .i64 a', .int .i64 b', .int .i64 c', .int .i64 d']⟩) (decide (a = a') && (decide (b = b') && (decide (c = c') && (decide (d = d') && true)))) := by
  obtain ⟨inf, hinf, -⟩ := info_of tblOk (t := T_int) rfl
  refine EqV.arr (m := 4) (e := T_int) (sz := 1) (by kernel_rfl) hinf (by kernel_rfl) ?_
  show EqIt _ _ _ _ _ _ [0, 1, 2, 3] _
  refine EqIt.cons (PartIs.one tblOk rfl rfl rfl) (PartIs.one tblOk rfl rfl rfl) (EqV.int tblOk rfl rfl _ _) ?_
  refine EqIt.cons (PartIs.one tblOk rfl rfl rfl) (PartIs.one tblOk rfl rfl rfl) (EqV.int tblOk rfl rfl _ _) ?_
  refine EqIt.cons (PartIs.one tblOk rfl rfl rfl) (PartIs.one tblOk rfl rfl rfl) (EqV.int tblOk rfl rfl _ _) ?_
  exact EqIt.cons (PartIs.one tblOk rfl rfl rfl) (PartIs.one tblOk rfl rfl rfl) (EqV.int tblOk rfl rfl _ _) EqIt.nil
/-- All but the rows. -/
def sameR (x y : CmdM) : Bool := decide (x.kind = y.kind) && (decide (x.req = y.req) && (decide (x.id = y.id) && (decide (x.fl = y.fl) && (decide (x.eq = y.eq) && (decide (x.cls = y.cls) && ((decide (x.wcab = y.wcab) && (decide (x.fit = y.fit) && (decide (x.inf = y.inf) && true))) && (decide (x.vol = y.vol) && (decide (x.stb = y.stb) && (decide (x.num = y.num ∧ x.lt = y.lt) && ((decide (x.l0 = y.l0) && (decide (x.l1 = y.l1) && (decide (x.l2 = y.l2) && (decide (x.l3 = y.l3) && true)))) && decide (x.text = y.text)))))))))))
theorem same_eq (x y : CmdM) : decide (x = y) = (decide (x.rows = y.rows) && sameR x y) := by
  rw [Bool.eq_iff_iff]
  unfold sameR
  simp only [Bool.and_eq_true, decide_eq_true_eq, and_true]
  constructor
  · rintro rfl; simp
  · rintro ⟨h1, h2, h3, h4, h5, h6, h7, ⟨h8, h9, h10⟩, h11, h12, ⟨h13, h14⟩, ⟨h15, h16, h17, h18⟩, h19⟩
    exact CmdM.ext' h2 h3 h4 h5 h6 h7 h8 h9 h10 h11 h12 h13 h14 h1 h15 h16 h17 h18 h19
/-- What two commands that are compared need. -/
structure TwoCmd (w : World) (x y : CmdM) (a b : Option Addr) (ca cb : Nat) : Prop where
  hx : RowsAt w a ca x.rows
  hy : RowsAt w b cb y.rows
  len : x.rows.length ≤ 1099511627776
end Go.Proofs.YthpmmfapolcaiaaGreatDoor

/- Package wire: two commands compared. -/
namespace Go.Proofs.YthpmmfapolcaiaaGreatDoor
open Go Go.Eng Go.Proofs
theorem beq_dec (a b : Bool) : (a == b) = decide (a = b) := by cases a <;> cases b <;> rfl
set_option maxRecDepth 4000 in
set_option maxHeartbeats 8000000 in
theorem wsame_spec {w : World} {x y : CmdM} {a b : Option Addr} {ca cb : Nat} (h : TwoCmd w x y a b ca cb) :
    Cl Tryz.prog f_wire_same [cmdV x a ca, cmdV y b cb] w fun v w' => v = .bool (decide (x = y)) ∧ St w [] [] w' := by
  have hS := St.start w
  rw [same_eq]
  unfold sameR
  refine en_wire_same rfl ?_
  repeat (first | refine SemW.run tblOk ?_ | refine jA (by omega) ?_ | refine jB (by omega) ?_ | refine jC (by omega) ?_ | refine jD (by omega) ?_ | refine jE rfl ?_ | refine jF (by omega) ?_ | (refine jG ?_; first | with_reducible (first | refine jH ?_ | refine jI ?_ | refine jJ ?_ | refine jK ?_ | refine jL ?_) | refine jM (by omega) ?_ | refine jN (by omega) ?_ | with_reducible refine jM rfl ?_ | refine jM (by assumption) ?_ | refine jN (by assumption) ?_ | refine jM (by decide) ?_ | refine jN (by decide) ?_) | refine jF (ptr_ok tblOk rfl rfl) ?_ | refine jO (fun _ => by kernel_rfl) ?_ | refine jF (by decide) ?_)
  refine hS.al ?_
  intro b1 w1 _ hS
  repeat (first | refine SemW.run tblOk ?_ | refine jA (by omega) ?_ | refine jB (by omega) ?_ | refine jC (by omega) ?_ | refine jD (by omega) ?_ | refine jE rfl ?_ | refine jF (by omega) ?_ | (refine jG ?_; first | with_reducible (first | refine jH ?_ | refine jI ?_ | refine jJ ?_ | refine jK ?_ | refine jL ?_) | refine jM (by omega) ?_ | refine jN (by omega) ?_ | with_reducible refine jM rfl ?_ | refine jM (by assumption) ?_ | refine jN (by assumption) ?_ | refine jM (by decide) ?_ | refine jN (by decide) ?_) | refine jF (ptr_ok tblOk rfl rfl) ?_ | refine jO (fun _ => by kernel_rfl) ?_ | refine jF (by decide) ?_)
  refine hS.al ?_
  intro b2 w2 _ hS
  repeat (first | refine SemW.run tblOk ?_ | refine jA (by omega) ?_ | refine jB (by omega) ?_ | refine jC (by omega) ?_ | refine jD (by omega) ?_ | refine jE rfl ?_ | refine jF (by omega) ?_ | (refine jG ?_; first | with_reducible (first | refine jH ?_ | refine jI ?_ | refine jJ ?_ | refine jK ?_ | refine jL ?_) | refine jM (by omega) ?_ | refine jN (by omega) ?_ | with_reducible refine jM rfl ?_ | refine jM (by assumption) ?_ | refine jN (by assumption) ?_ | refine jM (by decide) ?_ | refine jN (by decide) ?_) | refine jF (ptr_ok tblOk rfl rfl) ?_ | refine jO (fun _ => by kernel_rfl) ?_ | refine jF (by decide) ?_ | refine hS.ld rfl ?_ | refine hS.ldn rfl ?_ | (refine hS.st rfl rfl ?_; intro _ hS))
  refine (equalRows_spec (h.hx.keep hS.nil) (h.hy.keep hS.nil) h.len).mono ?_
  rintro _ w3 ⟨rfl, hS'⟩
  have hS := hS.call0 hS'
  repeat (first | refine SemW.run tblOk ?_ | refine jA (by omega) ?_ | refine jB (by omega) ?_ | refine jC (by omega) ?_ | refine jD (by omega) ?_ | refine jE rfl ?_ | refine jF (by omega) ?_ | (refine jG ?_; first | with_reducible (first | refine jH ?_ | refine jI ?_ | refine jJ ?_ | refine jK ?_ | refine jL ?_) | refine jM (by omega) ?_ | refine jN (by omega) ?_ | with_reducible refine jM rfl ?_ | refine jM (by assumption) ?_ | refine jN (by assumption) ?_ | refine jM (by decide) ?_ | refine jN (by decide) ?_) | refine jF (ptr_ok tblOk rfl rfl) ?_ | refine jO (fun _ => by kernel_rfl) ?_ | refine jF (by decide) ?_ | refine hS.ld rfl ?_ | refine hS.ldn rfl ?_ | (refine hS.st rfl rfl ?_; intro _ hS))
  refine BrG.id ?_
  generalize decide (x.rows = y.rows) = bb
  cases bb
  · repeat (first | refine SemW.run tblOk ?_ | refine jA (by omega) ?_ | refine jB (by omega) ?_ | refine jC (by omega) ?_ | refine jD (by omega) ?_ | refine jE rfl ?_ | refine jF (by omega) ?_ | (refine jG ?_; first | with_reducible (first | refine jH ?_ | refine jI ?_ | refine jJ ?_ | refine jK ?_ | refine jL ?_) | refine jM (by omega) ?_ | refine jN (by omega) ?_ | with_reducible refine jM rfl ?_ | refine jM (by assumption) ?_ | refine jN (by assumption) ?_ | refine jM (by decide) ?_ | refine jN (by decide) ?_) | refine jF (ptr_ok tblOk rfl rfl) ?_ | refine jO (fun _ => by kernel_rfl) ?_ | refine jF (by decide) ?_ | refine hS.ld rfl ?_ | refine hS.ldn rfl ?_ | (refine hS.st rfl rfl ?_; intro _ hS))
    exact ⟨rfl, hS.nil⟩
  repeat (first | refine SemW.run tblOk ?_ | refine jA (by omega) ?_ | refine jB (by omega) ?_ | refine jC (by omega) ?_ | refine jD (by omega) ?_ | refine jE rfl ?_ | refine jF (by omega) ?_ | (refine jG ?_; first | with_reducible (first | refine jH ?_ | refine jI ?_ | refine jJ ?_ | refine jK ?_ | refine jL ?_) | refine jM (by omega) ?_ | refine jN (by omega) ?_ | with_reducible refine jM rfl ?_ | refine jM (by assumption) ?_ | refine jN (by assumption) ?_ | refine jM (by decide) ?_ | refine jN (by decide) ?_) | refine jF (ptr_ok tblOk rfl rfl) ?_ | refine jO (fun _ => by kernel_rfl) ?_ | refine jF (by decide) ?_ | refine hS.ld rfl ?_ | refine hS.ldn rfl ?_ | (refine hS.st rfl rfl ?_; intro _ hS))
  refine BrG.id ?_
  generalize decide (x.kind = y.kind) = bb
  cases bb
  · repeat (first | refine SemW.run tblOk ?_ | refine jA (by omega) ?_ | refine jB (by omega) ?_ | refine jC (by omega) ?_ | refine jD (by omega) ?_ | refine jE rfl ?_ | refine jF (by omega) ?_ | (refine jG ?_; first | with_reducible (first | refine jH ?_ | refine jI ?_ | refine jJ ?_ | refine jK ?_ | refine jL ?_) | refine jM (by omega) ?_ | refine jN (by omega) ?_ | with_reducible refine jM rfl ?_ | refine jM (by assumption) ?_ | refine jN (by assumption) ?_ | refine jM (by decide) ?_ | refine jN (by decide) ?_) | refine jF (ptr_ok tblOk rfl rfl) ?_ | refine jO (fun _ => by kernel_rfl) ?_ | refine jF (by decide) ?_ | refine hS.ld rfl ?_ | refine hS.ldn rfl ?_ | (refine hS.st rfl rfl ?_; intro _ hS))
    exact ⟨rfl, hS.nil⟩
  repeat (first | refine SemW.run tblOk ?_ | refine jA (by omega) ?_ | refine jB (by omega) ?_ | refine jC (by omega) ?_ | refine jD (by omega) ?_ | refine jE rfl ?_ | refine jF (by omega) ?_ | (refine jG ?_; first | with_reducible (first | refine jH ?_ | refine jI ?_ | refine jJ ?_ | refine jK ?_ | refine jL ?_) | refine jM (by omega) ?_ | refine jN (by omega) ?_ | with_reducible refine jM rfl ?_ | refine jM (by assumption) ?_ | refine jN (by assumption) ?_ | refine jM (by decide) ?_ | refine jN (by decide) ?_) | refine jF (ptr_ok tblOk rfl rfl) ?_ | refine jO (fun _ => by kernel_rfl) ?_ | refine jF (by decide) ?_ | refine hS.ld rfl ?_ | refine hS.ldn rfl ?_ | (refine hS.st rfl rfl ?_; intro _ hS))
  refine BrG.id ?_
  generalize decide (x.req = y.req) = bb
  cases bb
  · repeat (first | refine SemW.run tblOk ?_ | refine jA (by omega) ?_ | refine jB (by omega) ?_ | refine jC (by omega) ?_ | refine jD (by omega) ?_ | refine jE rfl ?_ | refine jF (by omega) ?_ | (refine jG ?_; first | with_reducible (first | refine jH ?_ | refine jI ?_ | refine jJ ?_ | refine jK ?_ | refine jL ?_) | refine jM (by omega) ?_ | refine jN (by omega) ?_ | with_reducible refine jM rfl ?_ | refine jM (by assumption) ?_ | refine jN (by assumption) ?_ | refine jM (by decide) ?_ | refine jN (by decide) ?_) | refine jF (ptr_ok tblOk rfl rfl) ?_ | refine jO (fun _ => by kernel_rfl) ?_ | refine jF (by decide) ?_ | refine hS.ld rfl ?_ | refine hS.ldn rfl ?_ | (refine hS.st rfl rfl ?_; intro _ hS))
    exact ⟨rfl, hS.nil⟩
  repeat (first | refine SemW.run tblOk ?_ | refine jA (by omega) ?_ | refine jB (by omega) ?_ | refine jC (by omega) ?_ | refine jD (by omega) ?_ | refine jE rfl ?_ | refine jF (by omega) ?_ | (refine jG ?_; first | with_reducible (first | refine jH ?_ | refine jI ?_ | refine jJ ?_ | refine jK ?_ | refine jL ?_) | refine jM (by omega) ?_ | refine jN (by omega) ?_ | with_reducible refine jM rfl ?_ | refine jM (by assumption) ?_ | refine jN (by assumption) ?_ | refine jM (by decide) ?_ | refine jN (by decide) ?_) | refine jF (ptr_ok tblOk rfl rfl) ?_ | refine jO (fun _ => by kernel_rfl) ?_ | refine jF (by decide) ?_ | refine hS.ld rfl ?_ | refine hS.ldn rfl ?_ | (refine hS.st rfl rfl ?_; intro _ hS))
  refine BrG.id ?_
  generalize decide (x.id = y.id) = bb
  cases bb
  · repeat (first | refine SemW.run tblOk ?_ | refine jA (by omega) ?_ | refine jB (by omega) ?_ | refine jC (by omega) ?_ | refine jD (by omega) ?_ | refine jE rfl ?_ | refine jF (by omega) ?_ | (refine jG ?_; first | with_reducible (first | refine jH ?_ | refine jI ?_ | refine jJ ?_ | refine jK ?_ | refine jL ?_) | refine jM (by omega) ?_ | refine jN (by omega) ?_ | with_reducible refine jM rfl ?_ | refine jM (by assumption) ?_ | refine jN (by assumption) ?_ | refine jM (by decide) ?_ | refine jN (by decide) ?_) | refine jF (ptr_ok tblOk rfl rfl) ?_ | refine jO (fun _ => by kernel_rfl) ?_ | refine jF (by decide) ?_ | refine hS.ld rfl ?_ | refine hS.ldn rfl ?_ | (refine hS.st rfl rfl ?_; intro _ hS))
    exact ⟨rfl, hS.nil⟩
  repeat (first | refine SemW.run tblOk ?_ | refine jA (by omega) ?_ | refine jB (by omega) ?_ | refine jC (by omega) ?_ | refine jD (by omega) ?_ | refine jE rfl ?_ | refine jF (by omega) ?_ | (refine jG ?_; first | with_reducible (first | refine jH ?_ | refine jI ?_ | refine jJ ?_ | refine jK ?_ | refine jL ?_) | refine jM (by omega) ?_ | refine jN (by omega) ?_ | with_reducible refine jM rfl ?_ | refine jM (by assumption) ?_ | refine jN (by assumption) ?_ | refine jM (by decide) ?_ | refine jN (by decide) ?_) | refine jF (ptr_ok tblOk rfl rfl) ?_ | refine jO (fun _ => by kernel_rfl) ?_ | refine jF (by decide) ?_ | refine hS.ld rfl ?_ | refine hS.ldn rfl ?_ | (refine hS.st rfl rfl ?_; intro _ hS))
  refine BrG.id ?_
  generalize decide (x.fl = y.fl) = bb
  cases bb
  · repeat (first | refine SemW.run tblOk ?_ | refine jA (by omega) ?_ | refine jB (by omega) ?_ | refine jC (by omega) ?_ | refine jD (by omega) ?_ | refine jE rfl ?_ | refine jF (by omega) ?_ | (refine jG ?_; first | with_reducible (first | refine jH ?_ | refine jI ?_ | refine jJ ?_ | refine jK ?_ | refine jL ?_) | refine jM (by omega) ?_ | refine jN (by omega) ?_ | with_reducible refine jM rfl ?_ | refine jM (by assumption) ?_ | refine jN (by assumption) ?_ | refine jM (by decide) ?_ | refine jN (by decide) ?_) | refine jF (ptr_ok tblOk rfl rfl) ?_ | refine jO (fun _ => by kernel_rfl) ?_ | refine jF (by decide) ?_ | refine hS.ld rfl ?_ | refine hS.ldn rfl ?_ | (refine hS.st rfl rfl ?_; intro _ hS))
    exact ⟨rfl, hS.nil⟩
  repeat (first | refine SemW.run tblOk ?_ | refine jA (by omega) ?_ | refine jB (by omega) ?_ | refine jC (by omega) ?_ | refine jD (by omega) ?_ | refine jE rfl ?_ | refine jF (by omega) ?_ | (refine jG ?_; first | with_reducible (first | refine jH ?_ | refine jI ?_ | refine jJ ?_ | refine jK ?_ | refine jL ?_) | refine jM (by omega) ?_ | refine jN (by omega) ?_ | with_reducible refine jM rfl ?_ | refine jM (by assumption) ?_ | refine jN (by assumption) ?_ | refine jM (by decide) ?_ | refine jN (by decide) ?_) | refine jF (ptr_ok tblOk rfl rfl) ?_ | refine jO (fun _ => by kernel_rfl) ?_ | refine jF (by decide) ?_ | refine hS.ld rfl ?_ | refine hS.ldn rfl ?_ | (refine hS.st rfl rfl ?_; intro _ hS))
  refine BrG.id ?_
  generalize decide (x.eq = y.eq) = bb
  cases bb
  · repeat (first | refine SemW.run tblOk ?_ | refine jA (by omega) ?_ | refine jB (by omega) ?_ | refine jC (by omega) ?_ | refine jD (by omega) ?_ | refine jE rfl ?_ | refine jF (by omega) ?_ | (refine jG ?_; first | with_reducible (first | refine jH ?_ | refine jI ?_ | refine jJ ?_ | refine jK ?_ | refine jL ?_) | refine jM (by omega) ?_ | refine jN (by omega) ?_ | with_reducible refine jM rfl ?_ | refine jM (by assumption) ?_ | refine jN (by assumption) ?_ | refine jM (by decide) ?_ | refine jN (by decide) ?_) | refine jF (ptr_ok tblOk rfl rfl) ?_ | refine jO (fun _ => by kernel_rfl) ?_ | refine jF (by decide) ?_ | refine hS.ld rfl ?_ | refine hS.ldn rfl ?_ | (refine hS.st rfl rfl ?_; intro _ hS))
    exact ⟨rfl, hS.nil⟩
  repeat (first | refine SemW.run tblOk ?_ | refine jA (by omega) ?_ | refine jB (by omega) ?_ | refine jC (by omega) ?_ | refine jD (by omega) ?_ | refine jE rfl ?_ | refine jF (by omega) ?_ | (refine jG ?_; first | with_reducible (first | refine jH ?_ | refine jI ?_ | refine jJ ?_ | refine jK ?_ | refine jL ?_) | refine jM (by omega) ?_ | refine jN (by omega) ?_ | with_reducible refine jM rfl ?_ | refine jM (by assumption) ?_ | refine jN (by assumption) ?_ | refine jM (by decide) ?_ | refine jN (by decide) ?_) | refine jF (ptr_ok tblOk rfl rfl) ?_ | refine jO (fun _ => by kernel_rfl) ?_ | refine jF (by decide) ?_ | refine hS.ld rfl ?_ | refine hS.ldn rfl ?_ | (refine hS.st rfl rfl ?_; intro _ hS))
  refine BrG.id ?_
  generalize decide (x.cls = y.cls) = bb
  cases bb
  · repeat (first | refine SemW.run tblOk ?_ | refine jA (by omega) ?_ | refine jB (by omega) ?_ | refine jC (by omega) ?_ | refine jD (by omega) ?_ | refine jE rfl ?_ | refine jF (by omega) ?_ | (refine jG ?_; first | with_reducible (first | refine jH ?_ | refine jI ?_ | refine jJ ?_ | refine jK ?_ | refine jL ?_) | refine jM (by omega) ?_ | refine jN (by omega) ?_ | with_reducible refine jM rfl ?_ | refine jM (by assumption) ?_ | refine jN (by assumption) ?_ | refine jM (by decide) ?_ | refine jN (by decide) ?_) | refine jF (ptr_ok tblOk rfl rfl) ?_ | refine jO (fun _ => by kernel_rfl) ?_ | refine jF (by decide) ?_ | refine hS.ld rfl ?_ | refine hS.ldn rfl ?_ | (refine hS.st rfl rfl ?_; intro _ hS))
    exact ⟨rfl, hS.nil⟩
  repeat (first | refine SemW.run tblOk ?_ | refine jA (by omega) ?_ | refine jB (by omega) ?_ | refine jC (by omega) ?_ | refine jD (by omega) ?_ | refine jE rfl ?_ | refine jF (by omega) ?_ | (refine jG ?_; first | with_reducible (first | refine jH ?_ | refine jI ?_ | refine jJ ?_ | refine jK ?_ | refine jL ?_) | refine jM (by omega) ?_ | refine jN (by omega) ?_ | with_reducible refine jM rfl ?_ | refine jM (by assumption) ?_ | refine jN (by assumption) ?_ | refine jM (by decide) ?_ | refine jN (by decide) ?_) | refine jF (ptr_ok tblOk rfl rfl) ?_ | refine jO (fun _ => by kernel_rfl) ?_ | refine jF (by decide) ?_ | refine hS.ld rfl ?_ | refine hS.ldn rfl ?_ | (refine hS.st rfl rfl ?_; intro _ hS))
  refine eqlAgg (n := 2) (by omega) (by kernel_rfl) (eqWho _ _ _ _ _ _) ?_
  repeat (first | refine SemW.run tblOk ?_ | refine jA (by omega) ?_ | refine jB (by omega) ?_ | refine jC (by omega) ?_ | refine jD (by omega) ?_ | refine jE rfl ?_ | refine jF (by omega) ?_ | (refine jG ?_; first | with_reducible (first | refine jH ?_ | refine jI ?_ | refine jJ ?_ | refine jK ?_ | refine jL ?_) | refine jM (by omega) ?_ | refine jN (by omega) ?_ | with_reducible refine jM rfl ?_ | refine jM (by assumption) ?_ | refine jN (by assumption) ?_ | refine jM (by decide) ?_ | refine jN (by decide) ?_) | refine jF (ptr_ok tblOk rfl rfl) ?_ | refine jO (fun _ => by kernel_rfl) ?_ | refine jF (by decide) ?_ | refine hS.ld rfl ?_ | refine hS.ldn rfl ?_ | (refine hS.st rfl rfl ?_; intro _ hS))
  refine BrG.id ?_
  generalize (decide (x.wcab = y.wcab) && (decide (x.fit = y.fit) && (decide (x.inf = y.inf) && true))) = bb
  cases bb
  · repeat (first | refine SemW.run tblOk ?_ | refine jA (by omega) ?_ | refine jB (by omega) ?_ | refine jC (by omega) ?_ | refine jD (by omega) ?_ | refine jE rfl ?_ | refine jF (by omega) ?_ | (refine jG ?_; first | with_reducible (first | refine jH ?_ | refine jI ?_ | refine jJ ?_ | refine jK ?_ | refine jL ?_) | refine jM (by omega) ?_ | refine jN (by omega) ?_ | with_reducible refine jM rfl ?_ | refine jM (by assumption) ?_ | refine jN (by assumption) ?_ | refine jM (by decide) ?_ | refine jN (by decide) ?_) | refine jF (ptr_ok tblOk rfl rfl) ?_ | refine jO (fun _ => by kernel_rfl) ?_ | refine jF (by decide) ?_ | refine hS.ld rfl ?_ | refine hS.ldn rfl ?_ | (refine hS.st rfl rfl ?_; intro _ hS))
    exact ⟨rfl, hS.nil⟩
  repeat (first | refine SemW.run tblOk ?_ | refine jA (by omega) ?_ | refine jB (by omega) ?_ | refine jC (by omega) ?_ | refine jD (by omega) ?_ | refine jE rfl ?_ | refine jF (by omega) ?_ | (refine jG ?_; first | with_reducible (first | refine jH ?_ | refine jI ?_ | refine jJ ?_ | refine jK ?_ | refine jL ?_) | refine jM (by omega) ?_ | refine jN (by omega) ?_ | with_reducible refine jM rfl ?_ | refine jM (by assumption) ?_ | refine jN (by assumption) ?_ | refine jM (by decide) ?_ | refine jN (by decide) ?_) | refine jF (ptr_ok tblOk rfl rfl) ?_ | refine jO (fun _ => by kernel_rfl) ?_ | refine jF (by decide) ?_ | refine hS.ld rfl ?_ | refine hS.ldn rfl ?_ | (refine hS.st rfl rfl ?_; intro _ hS))
  refine Chk.mk (by kernel_rfl) ?_
  repeat (first | refine SemW.run tblOk ?_ | refine jA (by omega) ?_ | refine jB (by omega) ?_ | refine jC (by omega) ?_ | refine jD (by omega) ?_ | refine jE rfl ?_ | refine jF (by omega) ?_ | (refine jG ?_; first | with_reducible (first | refine jH ?_ | refine jI ?_ | refine jJ ?_ | refine jK ?_ | refine jL ?_) | refine jM (by omega) ?_ | refine jN (by omega) ?_ | with_reducible refine jM rfl ?_ | refine jM (by assumption) ?_ | refine jN (by assumption) ?_ | refine jM (by decide) ?_ | refine jN (by decide) ?_) | refine jF (ptr_ok tblOk rfl rfl) ?_ | refine jO (fun _ => by kernel_rfl) ?_ | refine jF (by decide) ?_ | refine hS.ld rfl ?_ | refine hS.ldn rfl ?_ | (refine hS.st rfl rfl ?_; intro _ hS))
  refine BrG.id ?_
  rw [beq_dec]
  generalize decide (x.vol = y.vol) = bb
  cases bb
  · repeat (first | refine SemW.run tblOk ?_ | refine jA (by omega) ?_ | refine jB (by omega) ?_ | refine jC (by omega) ?_ | refine jD (by omega) ?_ | refine jE rfl ?_ | refine jF (by omega) ?_ | (refine jG ?_; first | with_reducible (first | refine jH ?_ | refine jI ?_ | refine jJ ?_ | refine jK ?_ | refine jL ?_) | refine jM (by omega) ?_ | refine jN (by omega) ?_ | with_reducible refine jM rfl ?_ | refine jM (by assumption) ?_ | refine jN (by assumption) ?_ | refine jM (by decide) ?_ | refine jN (by decide) ?_) | refine jF (ptr_ok tblOk rfl rfl) ?_ | refine jO (fun _ => by kernel_rfl) ?_ | refine jF (by decide) ?_ | refine hS.ld rfl ?_ | refine hS.ldn rfl ?_ | (refine hS.st rfl rfl ?_; intro _ hS))
    exact ⟨rfl, hS.nil⟩
  repeat (first | refine SemW.run tblOk ?_ | refine jA (by omega) ?_ | refine jB (by omega) ?_ | refine jC (by omega) ?_ | refine jD (by omega) ?_ | refine jE rfl ?_ | refine jF (by omega) ?_ | (refine jG ?_; first | with_reducible (first | refine jH ?_ | refine jI ?_ | refine jJ ?_ | refine jK ?_ | refine jL ?_) | refine jM (by omega) ?_ | refine jN (by omega) ?_ | with_reducible refine jM rfl ?_ | refine jM (by assumption) ?_ | refine jN (by assumption) ?_ | refine jM (by decide) ?_ | refine jN (by decide) ?_) | refine jF (ptr_ok tblOk rfl rfl) ?_ | refine jO (fun _ => by kernel_rfl) ?_ | refine jF (by decide) ?_ | refine hS.ld rfl ?_ | refine hS.ldn rfl ?_ | (refine hS.st rfl rfl ?_; intro _ hS))
  refine Chk.mk (by kernel_rfl) ?_
  repeat (first | refine SemW.run tblOk ?_ | refine jA (by omega) ?_ | refine jB (by omega) ?_ | refine jC (by omega) ?_ | refine jD (by omega) ?_ | refine jE rfl ?_ | refine jF (by omega) ?_ | (refine jG ?_; first | with_reducible (first | refine jH ?_ | refine jI ?_ | refine jJ ?_ | refine jK ?_ | refine jL ?_) | refine jM (by omega) ?_ | refine jN (by omega) ?_ | with_reducible refine jM rfl ?_ | refine jM (by assumption) ?_ | refine jN (by assumption) ?_ | refine jM (by decide) ?_ | refine jN (by decide) ?_) | refine jF (ptr_ok tblOk rfl rfl) ?_ | refine jO (fun _ => by kernel_rfl) ?_ | refine jF (by decide) ?_ | refine hS.ld rfl ?_ | refine hS.ldn rfl ?_ | (refine hS.st rfl rfl ?_; intro _ hS))
  refine BrG.id ?_
  rw [beq_dec]
  generalize decide (x.stb = y.stb) = bb
  cases bb
  · repeat (first | refine SemW.run tblOk ?_ | refine jA (by omega) ?_ | refine jB (by omega) ?_ | refine jC (by omega) ?_ | refine jD (by omega) ?_ | refine jE rfl ?_ | refine jF (by omega) ?_ | (refine jG ?_; first | with_reducible (first | refine jH ?_ | refine jI ?_ | refine jJ ?_ | refine jK ?_ | refine jL ?_) | refine jM (by omega) ?_ | refine jN (by omega) ?_ | with_reducible refine jM rfl ?_ | refine jM (by assumption) ?_ | refine jN (by assumption) ?_ | refine jM (by decide) ?_ | refine jN (by decide) ?_) | refine jF (ptr_ok tblOk rfl rfl) ?_ | refine jO (fun _ => by kernel_rfl) ?_ | refine jF (by decide) ?_ | refine hS.ld rfl ?_ | refine hS.ldn rfl ?_ | (refine hS.st rfl rfl ?_; intro _ hS))
    exact ⟨rfl, hS.nil⟩
  repeat (first | refine SemW.run tblOk ?_ | refine jA (by omega) ?_ | refine jB (by omega) ?_ | refine jC (by omega) ?_ | refine jD (by omega) ?_ | refine jE rfl ?_ | refine jF (by omega) ?_ | (refine jG ?_; first | with_reducible (first | refine jH ?_ | refine jI ?_ | refine jJ ?_ | refine jK ?_ | refine jL ?_) | refine jM (by omega) ?_ | refine jN (by omega) ?_ | with_reducible refine jM rfl ?_ | refine jM (by assumption) ?_ | refine jN (by assumption) ?_ | refine jM (by decide) ?_ | refine jN (by decide) ?_) | refine jF (ptr_ok tblOk rfl rfl) ?_ | refine jO (fun _ => by kernel_rfl) ?_ | refine jF (by decide) ?_ | refine hS.ld rfl ?_ | refine hS.ldn rfl ?_ | (refine hS.st rfl rfl ?_; intro _ hS))
  refine eqlAgg (n := 2) (by omega) (by kernel_rfl) (eqSeat _ _ _ _) ?_
  repeat (first | refine SemW.run tblOk ?_ | refine jA (by omega) ?_ | refine jB (by omega) ?_ | refine jC (by omega) ?_ | refine jD (by omega) ?_ | refine jE rfl ?_ | refine jF (by omega) ?_ | (refine jG ?_; first | with_reducible (first | refine jH ?_ | refine jI ?_ | refine jJ ?_ | refine jK ?_ | refine jL ?_) | refine jM (by omega) ?_ | refine jN (by omega) ?_ | with_reducible refine jM rfl ?_ | refine jM (by assumption) ?_ | refine jN (by assumption) ?_ | refine jM (by decide) ?_ | refine jN (by decide) ?_) | refine jF (ptr_ok tblOk rfl rfl) ?_ | refine jO (fun _ => by kernel_rfl) ?_ | refine jF (by decide) ?_ | refine hS.ld rfl ?_ | refine hS.ldn rfl ?_ | (refine hS.st rfl rfl ?_; intro _ hS))
  refine BrG.id ?_
  generalize decide (x.num = y.num ∧ x.lt = y.lt) = bb
  cases bb
  · repeat (first | refine SemW.run tblOk ?_ | refine jA (by omega) ?_ | refine jB (by omega) ?_ | refine jC (by omega) ?_ | refine jD (by omega) ?_ | refine jE rfl ?_ | refine jF (by omega) ?_ | (refine jG ?_; first | with_reducible (first | refine jH ?_ | refine jI ?_ | refine jJ ?_ | refine jK ?_ | refine jL ?_) | refine jM (by omega) ?_ | refine jN (by omega) ?_ | with_reducible refine jM rfl ?_ | refine jM (by assumption) ?_ | refine jN (by assumption) ?_ | refine jM (by decide) ?_ | refine jN (by decide) ?_) | refine jF (ptr_ok tblOk rfl rfl) ?_ | refine jO (fun _ => by kernel_rfl) ?_ | refine jF (by decide) ?_ | refine hS.ld rfl ?_ | refine hS.ldn rfl ?_ | (refine hS.st rfl rfl ?_; intro _ hS))
    exact ⟨rfl, hS.nil⟩
  repeat (first | refine SemW.run tblOk ?_ | refine jA (by omega) ?_ | refine jB (by omega) ?_ | refine jC (by omega) ?_ | refine jD (by omega) ?_ | refine jE rfl ?_ | refine jF (by omega) ?_ | (refine jG ?_; first | with_reducible (first | refine jH ?_ | refine jI ?_ | refine jJ ?_ | refine jK ?_ | refine jL ?_) | refine jM (by omega) ?_ | refine jN (by omega) ?_ | with_reducible refine jM rfl ?_ | refine jM (by assumption) ?_ | refine jN (by assumption) ?_ | refine jM (by decide) ?_ | refine jN (by decide) ?_) | refine jF (ptr_ok tblOk rfl rfl) ?_ | refine jO (fun _ => by kernel_rfl) ?_ | refine jF (by decide) ?_ | refine hS.ld rfl ?_ | refine hS.ldn rfl ?_ | (refine hS.st rfl rfl ?_; intro _ hS))
  refine eqlAgg (n := 2) (by omega) (by kernel_rfl) (eqLim _ _ _ _ _ _ _ _) ?_
  repeat (first | refine SemW.run tblOk ?_ | refine jA (by omega) ?_ | refine jB (by omega) ?_ | refine jC (by omega) ?_ | refine jD (by omega) ?_ | refine jE rfl ?_ | refine jF (by omega) ?_ | (refine jG ?_; first | with_reducible (first | refine jH ?_ | refine jI ?_ | refine jJ ?_ | refine jK ?_ | refine jL ?_) | refine jM (by omega) ?_ | refine jN (by omega) ?_ | with_reducible refine jM rfl ?_ | refine jM (by assumption) ?_ | refine jN (by assumption) ?_ | refine jM (by decide) ?_ | refine jN (by decide) ?_) | refine jF (ptr_ok tblOk rfl rfl) ?_ | refine jO (fun _ => by kernel_rfl) ?_ | refine jF (by decide) ?_ | refine hS.ld rfl ?_ | refine hS.ldn rfl ?_ | (refine hS.st rfl rfl ?_; intro _ hS))
  refine BrG.id ?_
  generalize (decide (x.l0 = y.l0) && (decide (x.l1 = y.l1) && (decide (x.l2 = y.l2) && (decide (x.l3 = y.l3) && true)))) = bb
  cases bb
  · repeat (first | refine SemW.run tblOk ?_ | refine jA (by omega) ?_ | refine jB (by omega) ?_ | refine jC (by omega) ?_ | refine jD (by omega) ?_ | refine jE rfl ?_ | refine jF (by omega) ?_ | (refine jG ?_; first | with_reducible (first | refine jH ?_ | refine jI ?_ | refine jJ ?_ | refine jK ?_ | refine jL ?_) | refine jM (by omega) ?_ | refine jN (by omega) ?_ | with_reducible refine jM rfl ?_ | refine jM (by assumption) ?_ | refine jN (by assumption) ?_ | refine jM (by decide) ?_ | refine jN (by decide) ?_) | refine jF (ptr_ok tblOk rfl rfl) ?_ | refine jO (fun _ => by kernel_rfl) ?_ | refine jF (by decide) ?_ | refine hS.ld rfl ?_ | refine hS.ldn rfl ?_ | (refine hS.st rfl rfl ?_; intro _ hS))
    exact ⟨rfl, hS.nil⟩
  repeat (first | refine SemW.run tblOk ?_ | refine jA (by omega) ?_ | refine jB (by omega) ?_ | refine jC (by omega) ?_ | refine jD (by omega) ?_ | refine jE rfl ?_ | refine jF (by omega) ?_ | (refine jG ?_; first | with_reducible (first | refine jH ?_ | refine jI ?_ | refine jJ ?_ | refine jK ?_ | refine jL ?_) | refine jM (by omega) ?_ | refine jN (by omega) ?_ | with_reducible refine jM rfl ?_ | refine jM (by assumption) ?_ | refine jN (by assumption) ?_ | refine jM (by decide) ?_ | refine jN (by decide) ?_) | refine jF (ptr_ok tblOk rfl rfl) ?_ | refine jO (fun _ => by kernel_rfl) ?_ | refine jF (by decide) ?_ | refine hS.ld rfl ?_ | refine hS.ldn rfl ?_ | (refine hS.st rfl rfl ?_; intro _ hS))
  exact ⟨rfl, hS.nil⟩
end Go.Proofs.YthpmmfapolcaiaaGreatDoor

/- strings.Builder over a program whose functions stand in the table of names: copyCheck, WriteString, String; frame.Seal. -/
namespace Go.Proofs.YthpmmfapolcaiaaGreatDoor
open Go Go.Eng Go.Proofs

/-- The builder at block b holds the text s: its two cells, and its buffer. -/
inductive Bld (b : Nat) (s : List UInt8) : Heap → Prop where
  | mk (p : Value) (hp : p = .pointer none ∨ p = ptr b) (a : Option Addr) (cap : Nat) (L : Heap) (hv : Vec T_uint8 1 a s.length cap (s.map byteV) L) :
    Bld b s ((b, .cells ⟨[p, .slice a s.length cap]⟩ T_strings_Builder (0, 0)) :: L)
theorem Bld.new (b : Nat) : Bld b [] [(b, .cells ⟨[.pointer none, .slice none 0 0]⟩ T_strings_Builder (0, 0))] := Bld.mk _ (.inl rfl) none 0 [] Vec.nil

theorem run_NoEscape (v : Value) (w : World) : (callFunc f_internal_abi_NoEscape ⟨[v]⟩).run Tryz.prog w = .ok (.value v) w := by
  rw [run_callFunc_extern func_internal_abi_NoEscape (by kernel_rfl) (by kernel_rfl) (by kernel_rfl) (e := Extern.AbiNoEscape.same) (by kernel_rfl)]
  rfl
theorem und_unsafe : Tryz.prog.underlying T_unsafe_Pointer = some .unsafePointer := by kernel_rfl
theorem liesBuilder : liesAt Tryz.prog Tryz.prog.depth T_strings_Builder (2 / Tryz.prog.cellsOf T_strings_Builder) 0 T_strings_Builder 1 = true := by kernel_rfl

theorem copyCheck_spec {w : World} {b n cap : Nat} {p : Value} {a : Option Addr} {L1 : Heap} (hp : p = .pointer none ∨ p = ptr b)
    (hh : Holds ((b, .cells ⟨[p, .slice a n cap]⟩ T_strings_Builder (0, 0)) :: L1) w) :
    Cl Tryz.prog f_strings_Builder_copyCheck [ptr b] w fun v w' => v = .tuple ⟨[]⟩ ∧ St w (b :: keys L1) ((b, .cells ⟨[ptr b, .slice a n cap]⟩ T_strings_Builder (0, 0)) :: L1) w' := by
  have hS : St w (b :: keys L1) _ w := St.enter hh
  have hsh : w.shape? b = some (T_strings_Builder, 2) := by
    have := hS.mem (b := b)
    simp [World.shape?, this]
  obtain ⟨inf, hinf, -, hsz, -⟩ := info_of tblOk (t := T_strings_Builder) rfl
  refine en_strings_Builder_copyCheck rfl ?_
  rcases hp with rfl | rfl
  · repeat (first | refine SemW.run tblOk ?_ | refine jA (by omega) ?_ | refine jB (by omega) ?_ | refine jC (by omega) ?_ | refine jD (by omega) ?_ | refine jE rfl ?_ | refine jF (by omega) ?_ | (refine jG ?_; first | with_reducible (first | refine jH ?_ | refine jI ?_ | refine jJ ?_ | refine jK ?_ | refine jL ?_) | refine jM (by omega) ?_ | refine jN (by omega) ?_ | with_reducible refine jM rfl ?_ | refine jM (by assumption) ?_ | refine jN (by assumption) ?_ | refine jM (by decide) ?_ | refine jN (by decide) ?_) | refine jF (ptr_ok tblOk rfl rfl) ?_ | refine jO (fun _ => by kernel_rfl) ?_ | refine jF (by decide) ?_ | refine hS.ld rfl ?_ | refine hS.ldn rfl ?_ | (refine hS.st rfl rfl ?_; intro _ hS))
    refine RunG.of (Lib.run_to_unsafe w ⟨b, 0, none⟩ (und_of tblOk (t := T_Ptr_strings_Builder) rfl) und_unsafe hinf (by rw [hsz]; nofun) hsh (Nat.zero_lt_succ 1)) ?_
    refine Or.inr ⟨_, _, run_NoEscape _ _, ?_⟩
    refine RunG.of (Lib.run_from_unsafe w ⟨b, 0, none⟩ und_unsafe (und_of tblOk (t := T_Ptr_strings_Builder) rfl) hinf hsh liesBuilder) ?_
    repeat (first | refine SemW.run tblOk ?_ | refine jA (by omega) ?_ | refine jB (by omega) ?_ | refine jC (by omega) ?_ | refine jD (by omega) ?_ | refine jE rfl ?_ | refine jF (by omega) ?_ | (refine jG ?_; first | with_reducible (first | refine jH ?_ | refine jI ?_ | refine jJ ?_ | refine jK ?_ | refine jL ?_) | refine jM (by omega) ?_ | refine jN (by omega) ?_ | with_reducible refine jM rfl ?_ | refine jM (by assumption) ?_ | refine jN (by assumption) ?_ | refine jM (by decide) ?_ | refine jN (by decide) ?_) | refine jF (ptr_ok tblOk rfl rfl) ?_ | refine jO (fun _ => by kernel_rfl) ?_ | refine jF (by decide) ?_ | refine hS.ld rfl ?_ | refine hS.ldn rfl ?_ | (refine hS.st rfl rfl ?_; intro _ hS))
    exact ⟨rfl, hS⟩
  · repeat (first | refine SemW.run tblOk ?_ | refine jA (by omega) ?_ | refine jB (by omega) ?_ | refine jC (by omega) ?_ | refine jD (by omega) ?_ | refine jE rfl ?_ | refine jF (by omega) ?_ | (refine jG ?_; first | with_reducible (first | refine jH ?_ | refine jI ?_ | refine jJ ?_ | refine jK ?_ | refine jL ?_) | refine jM (by omega) ?_ | refine jN (by omega) ?_ | with_reducible refine jM rfl ?_ | refine jM (by assumption) ?_ | refine jN (by assumption) ?_ | refine jM (by decide) ?_ | refine jN (by decide) ?_) | refine jF (ptr_ok tblOk rfl rfl) ?_ | refine jO (fun _ => by kernel_rfl) ?_ | refine jF (by decide) ?_ | refine hS.ld rfl ?_ | refine hS.ldn rfl ?_ | (refine hS.st rfl rfl ?_; intro _ hS))
    refine PureRun.mk ⟨.bool false, fun w => ?_, ?_⟩
    · have := Lib.run_neq_ptr_same (P := Tryz.prog) w ⟨b, 0, none⟩ (und_of tblOk (t := T_Ptr_strings_Builder) rfl) hinf
      simp only [Sem.run_bind, run_eqGuard_of Tryz.prog .neq T_Ptr_strings_Builder _ _ (ptr b) (ptr b) w nofun nofun, Result.andThen_ok]
      exact this
    · repeat (first | refine SemW.run tblOk ?_ | refine jA (by omega) ?_ | refine jB (by omega) ?_ | refine jC (by omega) ?_ | refine jD (by omega) ?_ | refine jE rfl ?_ | refine jF (by omega) ?_ | (refine jG ?_; first | with_reducible (first | refine jH ?_ | refine jI ?_ | refine jJ ?_ | refine jK ?_ | refine jL ?_) | refine jM (by omega) ?_ | refine jN (by omega) ?_ | with_reducible refine jM rfl ?_ | refine jM (by assumption) ?_ | refine jN (by assumption) ?_ | refine jM (by decide) ?_ | refine jN (by decide) ?_) | refine jF (ptr_ok tblOk rfl rfl) ?_ | refine jO (fun _ => by kernel_rfl) ?_ | refine jF (by decide) ?_ | refine hS.ld rfl ?_ | refine hS.ldn rfl ?_ | (refine hS.st rfl rfl ?_; intro _ hS))
      exact ⟨rfl, hS⟩

theorem WriteString_spec {w : World} {b : Nat} {s t : List UInt8} {L : Heap} (hL : Bld b s L) (hh : Holds L w) (hlen : s.length + t.length ≤ 140737488355328) :
    Cl Tryz.prog f_strings_Builder_WriteString [ptr b, Str t] w fun v w' => v = .tuple ⟨[.int .i64 t.length, .nilIface]⟩ ∧ ∃ L', Bld b (s ++ t) L' ∧ St w (keys L) L' w' := by
  obtain ⟨p, hp, a, cap, L1, hv⟩ := hL
  refine en_strings_Builder_WriteString rfl ?_
  repeat (first | refine SemW.run tblOk ?_ | refine jA (by omega) ?_ | refine jB (by omega) ?_ | refine jC (by omega) ?_ | refine jD (by omega) ?_ | refine jE rfl ?_ | refine jF (by omega) ?_ | (refine jG ?_; first | with_reducible (first | refine jH ?_ | refine jI ?_ | refine jJ ?_ | refine jK ?_ | refine jL ?_) | refine jM (by omega) ?_ | refine jN (by omega) ?_ | with_reducible refine jM rfl ?_ | refine jM (by assumption) ?_ | refine jN (by assumption) ?_ | refine jM (by decide) ?_ | refine jN (by decide) ?_) | refine jF (ptr_ok tblOk rfl rfl) ?_ | refine jO (fun _ => by kernel_rfl) ?_ | refine jF (by decide) ?_)
  refine (copyCheck_spec hp hh).mono ?_
  rintro _ w1 ⟨rfl, hS⟩
  repeat (first | refine SemW.run tblOk ?_ | refine jA (by omega) ?_ | refine jB (by omega) ?_ | refine jC (by omega) ?_ | refine jD (by omega) ?_ | refine jE rfl ?_ | refine jF (by omega) ?_ | (refine jG ?_; first | with_reducible (first | refine jH ?_ | refine jI ?_ | refine jJ ?_ | refine jK ?_ | refine jL ?_) | refine jM (by omega) ?_ | refine jN (by omega) ?_ | with_reducible refine jM rfl ?_ | refine jM (by assumption) ?_ | refine jN (by assumption) ?_ | refine jM (by decide) ?_ | refine jN (by decide) ?_) | refine jF (ptr_ok tblOk rfl rfl) ?_ | refine jO (fun _ => by kernel_rfl) ?_ | refine jF (by decide) ?_ | refine hS.ld rfl ?_ | refine hS.ldn rfl ?_ | (refine hS.st rfl rfl ?_; intro _ hS))
  refine St.appStr tblOk rfl rfl rfl rfl rfl rfl hS hv (by show (_ + _) * 1 ≤ _; omega) (by omega) ?_
  intro a' cap' L' w2 hv' hS
  repeat (first | refine SemW.run tblOk ?_ | refine jA (by omega) ?_ | refine jB (by omega) ?_ | refine jC (by omega) ?_ | refine jD (by omega) ?_ | refine jE rfl ?_ | refine jF (by omega) ?_ | (refine jG ?_; first | with_reducible (first | refine jH ?_ | refine jI ?_ | refine jJ ?_ | refine jK ?_ | refine jL ?_) | refine jM (by omega) ?_ | refine jN (by omega) ?_ | with_reducible refine jM rfl ?_ | refine jM (by assumption) ?_ | refine jN (by assumption) ?_ | refine jM (by decide) ?_ | refine jN (by decide) ?_) | refine jF (ptr_ok tblOk rfl rfl) ?_ | refine jO (fun _ => by kernel_rfl) ?_ | refine jF (by decide) ?_ | refine hS.ld rfl ?_ | refine hS.ldn rfl ?_ | (refine hS.st rfl rfl ?_; intro _ hS))
  refine ⟨rfl, _, Bld.mk (ptr b) (.inr rfl) a' cap' L' ?_, ?_⟩
  · simpa using hv'
  · rw [List.length_append]; exact hS

theorem shape_of {w : World} {g : Nat} {l : List Value} {e : TypeId} {fz : Nat × Nat} (h : w.heap[g]? = some (.cells ⟨l⟩ e fz)) : w.shape? g = some (e, l.length) := by
  simp [World.shape?, h]
theorem cellsByte : Tryz.prog.cellsOf T_uint8 = 1 := by kernel_rfl

theorem mem_keys' {H : Heap} {p : Nat × Obj} (h : p ∈ H) : p.1 ∈ keys H := List.mem_map_of_mem h
/-- A frozen block is forgotten. -/
theorem frozen_drop {w0 w : World} {T : List Nat} {g : Nat} {o : Obj} {H : Heap} (hS : St w0 T ((g, o) :: H) w) (a : Addr) (ha : a.block = g) (n : Nat) : St w0 T H (w.freeze a n) := by
  unfold World.freeze
  split
  · exact hS.sub (List.sublist_cons_self _ _)
  · refine ⟨hS.os, hS.tape, hS.output, by simpa using hS.size, fun b hb hT => ?_, fun p hp => ?_, (List.nodup_cons.1 hS.nd).2, fun p hp => hS.fresh p (List.mem_cons_of_mem _ hp)⟩
    · have hne : g ≠ b := fun e => by subst e; exact hT (hS.fresh _ List.mem_cons_self hb)
      simp only [Array.getElem?_modify, ha]
      rw [if_neg hne]; exact hS.old b hb hT
    · have hne : g ≠ p.1 := fun e => (List.nodup_cons.1 hS.nd).1 (by have := mem_keys' hp; rw [← e] at this; exact this)
      simp only [Array.getElem?_modify, ha]
      rw [if_neg hne]; exact hS.own p (List.mem_cons_of_mem _ hp)

theorem String_spec {w : World} {b : Nat} {s : List UInt8} {L : Heap} (hL : Bld b s L) (hh : Holds L w) (hlen : s.length ≤ 140737488355328) :
    Cl Tryz.prog f_strings_Builder_String [ptr b] w fun v w' => v = Str s ∧ St w (keys L) [] w' := by
  have hS := St.enter hh
  obtain ⟨p, hp, a, cap, L1, hv⟩ := hL
  refine en_strings_Builder_String rfl ?_
  repeat (first | refine SemW.run tblOk ?_ | refine jA (by omega) ?_ | refine jB (by omega) ?_ | refine jC (by omega) ?_ | refine jD (by omega) ?_ | refine jE rfl ?_ | refine jF (by omega) ?_ | (refine jG ?_; first | with_reducible (first | refine jH ?_ | refine jI ?_ | refine jJ ?_ | refine jK ?_ | refine jL ?_) | refine jM (by omega) ?_ | refine jN (by omega) ?_ | with_reducible refine jM rfl ?_ | refine jM (by assumption) ?_ | refine jN (by assumption) ?_ | refine jM (by decide) ?_ | refine jN (by decide) ?_) | refine jF (ptr_ok tblOk rfl rfl) ?_ | refine jO (fun _ => by kernel_rfl) ?_ | refine jF (by decide) ?_)
  refine SemW.draw tblOk mixed (fun w' => St w (keys ((b, .cells ⟨[p, .slice a s.length cap]⟩ T_strings_Builder (0, 0)) :: L1)) ((b, .cells ⟨[p, .slice a s.length cap]⟩ T_strings_Builder (0, 0)) :: L1) w')
    [10, 11] [0, 1, 2, 3, 5, 6, 7, 8, 9, 4, 10, 11] (by kernel_rfl) hS.drew ?_
  repeat (first | refine SemW.run tblOk ?_ | refine jA (by omega) ?_ | refine jB (by omega) ?_ | refine jC (by omega) ?_ | refine jD (by omega) ?_ | refine jE rfl ?_ | refine jF (by omega) ?_ | (refine jG ?_; first | with_reducible (first | refine jH ?_ | refine jI ?_ | refine jJ ?_ | refine jK ?_ | refine jL ?_) | refine jM (by omega) ?_ | refine jN (by omega) ?_ | with_reducible refine jM rfl ?_ | refine jM (by assumption) ?_ | refine jN (by assumption) ?_ | refine jM (by decide) ?_ | refine jN (by decide) ?_) | refine jF (ptr_ok tblOk rfl rfl) ?_ | refine jO (fun _ => by kernel_rfl) ?_ | refine jF (by decide) ?_ | refine hS.ldC rfl ?_ | refine hS.ldnC rfl ?_)
  have hS := hS.drew
  generalize w.drew = w1 at hS ⊢
  -- the pointer to the bytes
  by_cases hs : s = []
  · subst hs
    have key : ∃ q w2, (Builtin.unsafeSliceData_ ⟨[T_Sl_uint8]⟩ T_Ptr_uint8 ⟨[.slice a 0 cap]⟩).run Tryz.prog w1 = .ok (.pointer q) w2 ∧ St w (keys ((b, .cells ⟨[p, .slice a 0 cap]⟩ T_strings_Builder (0, 0)) :: L1)) ((b, .cells ⟨[p, .slice a 0 cap]⟩ T_strings_Builder (0, 0)) :: L1) w2 := by
      cases hv with
      | nil => exact ⟨none, w1, rfl, hS⟩
      | row g n cap xs l hx hl hn =>
        by_cases hc : cap = 0
        · subst hc
          exact ⟨_, _, Lib.run_unsafeSliceData_zero w1 _ _ _ (und_of tblOk (t := T_Ptr_uint8) rfl) _ _ _ (shape_of (hS.mem (b := g))), (hS.alloc _).sub (List.sublist_cons_self _ _)⟩
        · exact ⟨_, w1, Lib.run_unsafeSliceData_row (P := Tryz.prog) w1 _ _ _ _ _ hc, hS⟩
    obtain ⟨q, w2, h1, hS⟩ := key
    refine RunG.of h1 ?_
    refine Chk.mk hS ?_
    refine RunG.of (Lib.run_unsafeString_none (P := Tryz.prog) w2 _ _ _ q) ?_
    repeat (first | refine SemW.run tblOk ?_ | refine jA (by omega) ?_ | refine jB (by omega) ?_ | refine jC (by omega) ?_ | refine jD (by omega) ?_ | refine jE rfl ?_ | refine jF (by omega) ?_ | (refine jG ?_; first | with_reducible (first | refine jH ?_ | refine jI ?_ | refine jJ ?_ | refine jK ?_ | refine jL ?_) | refine jM (by omega) ?_ | refine jN (by omega) ?_ | with_reducible refine jM rfl ?_ | refine jM (by assumption) ?_ | refine jN (by assumption) ?_ | refine jM (by decide) ?_ | refine jN (by decide) ?_) | refine jF (ptr_ok tblOk rfl rfl) ?_ | refine jO (fun _ => by kernel_rfl) ?_ | refine jF (by decide) ?_)
    exact ⟨rfl, hS.nil⟩
  · rcases hv.inv with ⟨-, h0, -⟩ | ⟨g, l, rfl, hx, hl, hn, rfl⟩
    · exact absurd (List.length_eq_zero_iff.1 h0) hs
    · have hs0 : 0 < s.length := List.length_pos_iff.2 hs
      have hcap : cap ≠ 0 := by omega
      refine RunG.of (Lib.run_unsafeSliceData_row (P := Tryz.prog) w1 _ _ ⟨g, 0, none⟩ s.length cap hcap) ?_
      refine Chk.mk hS ?_
      refine RunG.of (Lib.run_unsafeString_row (P := Tryz.prog) w1 _ _ _ T_uint8 (und_of tblOk (t := T_Ptr_uint8) rfl) cellsByte g _ (shape_of (hS.mem (b := g))) s hs (by simp) (by omega) ?_) ?_
      · intro j x hx
        rw [Addr.add_eq, Nat.zero_add]
        refine hS.cell ?_
        have hlt : j < s.length := (List.getElem?_eq_some_iff.1 hx).1
        rw [List.getElem?_append_left (by simpa using hlt)]
        simp [hx, byteV]
      · repeat (first | refine SemW.run tblOk ?_ | refine jA (by omega) ?_ | refine jB (by omega) ?_ | refine jC (by omega) ?_ | refine jD (by omega) ?_ | refine jE rfl ?_ | refine jF (by omega) ?_ | (refine jG ?_; first | with_reducible (first | refine jH ?_ | refine jI ?_ | refine jJ ?_ | refine jK ?_ | refine jL ?_) | refine jM (by omega) ?_ | refine jN (by omega) ?_ | with_reducible refine jM rfl ?_ | refine jM (by assumption) ?_ | refine jN (by assumption) ?_ | refine jM (by decide) ?_ | refine jN (by decide) ?_) | refine jF (ptr_ok tblOk rfl rfl) ?_ | refine jO (fun _ => by kernel_rfl) ?_ | refine jF (by decide) ?_)
        refine ⟨rfl, ?_⟩
        exact (frozen_drop (hS.perm (List.Perm.swap _ _ _)) ⟨g, 0, none⟩ rfl s.length).nil
set_option maxHeartbeats 1000000 in
theorem Seal_spec {w : World} {a : Option Addr} {cap : Nat} {ps : List (List UInt8)} (hlen : sumLen ps + 8 * ps.length ≤ 140737488355328) (ha : Arr w [] a (ps.map Str)) :
    Cl Tryz.prog f_frame_Seal [.slice a ps.length cap] w fun v w' => v = .tuple ⟨if okLens ps then [Str (sealB ps), .int .i64 0] else [Str [], .int .i64 2]⟩ ∧ St w [] [] w' := by
  have hS := St.start w
  refine en_frame_Seal rfl ?_
  repeat (first | refine SemW.run tblOk ?_ | refine jA (by omega) ?_ | refine jB (by omega) ?_ | refine jC (by omega) ?_ | refine jD (by omega) ?_ | refine jE rfl ?_ | refine jF (by omega) ?_ | (refine jG ?_; first | with_reducible (first | refine jH ?_ | refine jI ?_ | refine jJ ?_ | refine jK ?_ | refine jL ?_) | refine jM (by omega) ?_ | refine jN (by omega) ?_ | with_reducible refine jM rfl ?_ | refine jM (by assumption) ?_ | refine jN (by assumption) ?_ | refine jM (by decide) ?_ | refine jN (by decide) ?_) | refine jF (ptr_ok tblOk rfl rfl) ?_ | refine jO (fun _ => by kernel_rfl) ?_ | refine jF (by decide) ?_)
  refine hS.al ?_
  intro b w1 hb hS
  repeat (first | refine SemW.run tblOk ?_ | refine jA (by omega) ?_ | refine jB (by omega) ?_ | refine jC (by omega) ?_ | refine jD (by omega) ?_ | refine jE rfl ?_ | refine jF (by omega) ?_ | (refine jG ?_; first | with_reducible (first | refine jH ?_ | refine jI ?_ | refine jJ ?_ | refine jK ?_ | refine jL ?_) | refine jM (by omega) ?_ | refine jN (by omega) ?_ | with_reducible refine jM rfl ?_ | refine jM (by assumption) ?_ | refine jN (by assumption) ?_ | refine jM (by decide) ?_ | refine jN (by decide) ?_) | refine jF (ptr_ok tblOk rfl rfl) ?_ | refine jO (fun _ => by kernel_rfl) ?_ | refine jF (by decide) ?_)
  refine SemW.loop (fun k : Nat => [(8, .slice a ps.length cap), (9, .int .i64 ps.length), (10, .int .i64 k), (4, ptr b)]) (fun k w' => k ≤ ps.length ∧ (∀ j, (h : j < ps.length) → j < k → ps[j].length ≤ 65536) ∧ ∃ L, Bld b (sealB (ps.take k)) L ∧ St w [] L w') (fun k => ps.length - k) 0
    ⟨rfl, rfl, rfl, rfl, trivial⟩ ⟨Nat.zero_le _, fun _ _ h => absurd h (Nat.not_lt_zero _), _, Bld.new b, hS⟩ ?_
  rintro k w2 ⟨hk, hall, L, hB, hS⟩
  by_cases hkl : k < ps.length
  · have h1 := sumLen_take ps k hkl
    have h2 := sumLen_take_le ps (k + 1)
    have h3 := sealB_len (ps.take k)
    have h4 : (ps.take k).length = k := by simp; omega
    obtain ⟨b', off', rfl, -, hck⟩ := ha.get (j := k) (by simp; omega)
    simp only [List.getElem_map] at hck
    repeat (first | refine SemW.run tblOk ?_ | refine jA (by omega) ?_ | refine jB (by omega) ?_ | refine jC (by omega) ?_ | refine jD (by omega) ?_ | refine jE rfl ?_ | refine jF (by omega) ?_ | (refine jG ?_; first | with_reducible (first | refine jH ?_ | refine jI ?_ | refine jJ ?_ | refine jK ?_ | refine jL ?_) | refine jM (by omega) ?_ | refine jN (by omega) ?_ | with_reducible refine jM rfl ?_ | refine jM (by assumption) ?_ | refine jN (by assumption) ?_ | refine jM (by decide) ?_ | refine jN (by decide) ?_) | refine jF (ptr_ok tblOk rfl rfl) ?_ | refine jO (fun _ => by kernel_rfl) ?_ | refine jF (by decide) ?_)
    refine hS.ldOld (by simp) (by simpa using hck) ?_
    repeat (first | refine SemW.run tblOk ?_ | refine jA (by omega) ?_ | refine jB (by omega) ?_ | refine jC (by omega) ?_ | refine jD (by omega) ?_ | refine jE rfl ?_ | refine jF (by omega) ?_ | (refine jG ?_; first | with_reducible (first | refine jH ?_ | refine jI ?_ | refine jJ ?_ | refine jK ?_ | refine jL ?_) | refine jM (by omega) ?_ | refine jN (by omega) ?_ | with_reducible refine jM rfl ?_ | refine jM (by assumption) ?_ | refine jN (by assumption) ?_ | refine jM (by decide) ?_ | refine jN (by decide) ?_) | refine jF (ptr_ok tblOk rfl rfl) ?_ | refine jO (fun _ => by kernel_rfl) ?_ | refine jF (by decide) ?_)
    refine BrG.dec (fun h => ?_) (fun h => ?_)
    · repeat (first | refine SemW.run tblOk ?_ | refine jA (by omega) ?_ | refine jB (by omega) ?_ | refine jC (by omega) ?_ | refine jD (by omega) ?_ | refine jE rfl ?_ | refine jF (by omega) ?_ | (refine jG ?_; first | with_reducible (first | refine jH ?_ | refine jI ?_ | refine jJ ?_ | refine jK ?_ | refine jL ?_) | refine jM (by omega) ?_ | refine jN (by omega) ?_ | with_reducible refine jM rfl ?_ | refine jM (by assumption) ?_ | refine jN (by assumption) ?_ | refine jM (by decide) ?_ | refine jN (by decide) ?_) | refine jF (ptr_ok tblOk rfl rfl) ?_ | refine jO (fun _ => by kernel_rfl) ?_ | refine jF (by decide) ?_)
      have : okLens ps = false := by
        cases hok : okLens ps with
        | false => rfl
        | true =>
          have := of_decide_eq_true (List.all_eq_true.1 hok ps[k] (List.getElem_mem _))
          omega
      rw [this]
      exact ⟨rfl, hS.nil⟩
    · repeat (first | refine SemW.run tblOk ?_ | refine jA (by omega) ?_ | refine jB (by omega) ?_ | refine jC (by omega) ?_ | refine jD (by omega) ?_ | refine jE rfl ?_ | refine jF (by omega) ?_ | (refine jG ?_; first | with_reducible (first | refine jH ?_ | refine jI ?_ | refine jJ ?_ | refine jK ?_ | refine jL ?_) | refine jM (by omega) ?_ | refine jN (by omega) ?_ | with_reducible refine jM rfl ?_ | refine jM (by assumption) ?_ | refine jN (by assumption) ?_ | refine jM (by decide) ?_ | refine jN (by decide) ?_) | refine jF (ptr_ok tblOk rfl rfl) ?_ | refine jO (fun _ => by kernel_rfl) ?_ | refine jF (by decide) ?_)
      refine (four_spec ps[k].length).mono ?_
      rintro _ w3 ⟨rfl, hS'⟩
      have hS := hS.call0 hS'
      repeat (first | refine SemW.run tblOk ?_ | refine jA (by omega) ?_ | refine jB (by omega) ?_ | refine jC (by omega) ?_ | refine jD (by omega) ?_ | refine jE rfl ?_ | refine jF (by omega) ?_ | (refine jG ?_; first | with_reducible (first | refine jH ?_ | refine jI ?_ | refine jJ ?_ | refine jK ?_ | refine jL ?_) | refine jM (by omega) ?_ | refine jN (by omega) ?_ | with_reducible refine jM rfl ?_ | refine jM (by assumption) ?_ | refine jN (by assumption) ?_ | refine jM (by decide) ?_ | refine jN (by decide) ?_) | refine jF (ptr_ok tblOk rfl rfl) ?_ | refine jO (fun _ => by kernel_rfl) ?_ | refine jF (by decide) ?_)
      refine hS.al ?_
      intro b2 w4 hb2 hS
      refine (Sum_spec (ps := [be4 ps[k].length, ps[k]]) (by simp) (by simp [be4]; omega) (hS.arr (b := b2) (by simp))).mono ?_
      rintro _ w5 ⟨rfl, hS'⟩
      have hS := (hS.call0 hS').sub (List.sublist_cons_self _ _)
      repeat (first | refine SemW.run tblOk ?_ | refine jA (by omega) ?_ | refine jB (by omega) ?_ | refine jC (by omega) ?_ | refine jD (by omega) ?_ | refine jE rfl ?_ | refine jF (by omega) ?_ | (refine jG ?_; first | with_reducible (first | refine jH ?_ | refine jI ?_ | refine jJ ?_ | refine jK ?_ | refine jL ?_) | refine jM (by omega) ?_ | refine jN (by omega) ?_ | with_reducible refine jM rfl ?_ | refine jM (by assumption) ?_ | refine jN (by assumption) ?_ | refine jM (by decide) ?_ | refine jN (by decide) ?_) | refine jF (ptr_ok tblOk rfl rfl) ?_ | refine jO (fun _ => by kernel_rfl) ?_ | refine jF (by decide) ?_)
      refine (four_spec (crcN [be4 ps[k].length, ps[k]])).mono ?_
      rintro _ w6 ⟨rfl, hS'⟩
      have hS := hS.call0 hS'
      refine Chk.mk (by simp [be4]) ?_
      refine (WriteString_spec hB hS.holds (by simp [be4]; omega)).mono ?_
      rintro _ w7 ⟨rfl, L2, hB, hS'⟩
      have hS := hS.call hS'
      repeat (first | refine SemW.run tblOk ?_ | refine jA (by omega) ?_ | refine jB (by omega) ?_ | refine jC (by omega) ?_ | refine jD (by omega) ?_ | refine jE rfl ?_ | refine jF (by omega) ?_ | (refine jG ?_; first | with_reducible (first | refine jH ?_ | refine jI ?_ | refine jJ ?_ | refine jK ?_ | refine jL ?_) | refine jM (by omega) ?_ | refine jN (by omega) ?_ | with_reducible refine jM rfl ?_ | refine jM (by assumption) ?_ | refine jN (by assumption) ?_ | refine jM (by decide) ?_ | refine jN (by decide) ?_) | refine jF (ptr_ok tblOk rfl rfl) ?_ | refine jO (fun _ => by kernel_rfl) ?_ | refine jF (by decide) ?_)
      refine (WriteString_spec hB hS.holds (by simp [be4]; omega)).mono ?_
      rintro _ w8 ⟨rfl, L3, hB, hS'⟩
      have hS := hS.call hS'
      repeat (first | refine SemW.run tblOk ?_ | refine jA (by omega) ?_ | refine jB (by omega) ?_ | refine jC (by omega) ?_ | refine jD (by omega) ?_ | refine jE rfl ?_ | refine jF (by omega) ?_ | (refine jG ?_; first | with_reducible (first | refine jH ?_ | refine jI ?_ | refine jJ ?_ | refine jK ?_ | refine jL ?_) | refine jM (by omega) ?_ | refine jN (by omega) ?_ | with_reducible refine jM rfl ?_ | refine jM (by assumption) ?_ | refine jN (by assumption) ?_ | refine jM (by decide) ?_ | refine jN (by decide) ?_) | refine jF (ptr_ok tblOk rfl rfl) ?_ | refine jO (fun _ => by kernel_rfl) ?_ | refine jF (by decide) ?_)
      refine ⟨k + 1, ⟨rfl, rfl, rfl, rfl, trivial⟩, ⟨by omega, fun j hj hjk => ?_, L3, ?_, hS⟩, by omega⟩
      · by_cases hjk' : j = k
        · subst hjk'; omega
        · exact hall j hj (by omega)
      · rw [sealB_succ ps k hkl]
        simpa [frameB, List.append_assoc] using hB
  · have hke : k = ps.length := by omega
    subst hke
    rw [List.take_length] at hB
    have h3 := sealB_len ps
    repeat (first | refine SemW.run tblOk ?_ | refine jA (by omega) ?_ | refine jB (by omega) ?_ | refine jC (by omega) ?_ | refine jD (by omega) ?_ | refine jE rfl ?_ | refine jF (by omega) ?_ | (refine jG ?_; first | with_reducible (first | refine jH ?_ | refine jI ?_ | refine jJ ?_ | refine jK ?_ | refine jL ?_) | refine jM (by omega) ?_ | refine jN (by omega) ?_ | with_reducible refine jM rfl ?_ | refine jM (by assumption) ?_ | refine jN (by assumption) ?_ | refine jM (by decide) ?_ | refine jN (by decide) ?_) | refine jF (ptr_ok tblOk rfl rfl) ?_ | refine jO (fun _ => by kernel_rfl) ?_ | refine jF (by decide) ?_)
    refine (String_spec hB hS.holds (by omega)).mono ?_
    rintro _ w3 ⟨rfl, hS'⟩
    have hS := hS.call hS'
    repeat (first | refine SemW.run tblOk ?_ | refine jA (by omega) ?_ | refine jB (by omega) ?_ | refine jC (by omega) ?_ | refine jD (by omega) ?_ | refine jE rfl ?_ | refine jF (by omega) ?_ | (refine jG ?_; first | with_reducible (first | refine jH ?_ | refine jI ?_ | refine jJ ?_ | refine jK ?_ | refine jL ?_) | refine jM (by omega) ?_ | refine jN (by omega) ?_ | with_reducible refine jM rfl ?_ | refine jM (by assumption) ?_ | refine jN (by assumption) ?_ | refine jM (by decide) ?_ | refine jN (by decide) ?_) | refine jF (ptr_ok tblOk rfl rfl) ?_ | refine jO (fun _ => by kernel_rfl) ?_ | refine jF (by decide) ?_)
    have : okLens ps = true := List.all_eq_true.2 fun p hp => by
      obtain ⟨j, hj, rfl⟩ := List.getElem_of_mem hp
      exact decide_eq_true (hall j hj hj)
    rw [this]
    exact ⟨rfl, hS⟩

end Go.Proofs.YthpmmfapolcaiaaGreatDoor

/- Package wire: open, seal, ReadCommand. -/
namespace Go.Eng
open Go
theorem Holds.same {L : Heap} {w w' : World} (hh : Holds L w) (hS : St w (keys L) L w') : St w [] [] w' := by
  refine ⟨hS.os, hS.tape, hS.output, hS.size, fun b hb _ => ?_, by simp, by simp [keys], by simp⟩
  by_cases h : b ∈ keys L
  · obtain ⟨p, hp, rfl⟩ := List.mem_map.1 h
    rw [hS.own p hp, hh.own p hp]
  · exact hS.old b hb h
theorem Holds.keep {L H : Heap} {w w' : World} (hh : Holds L w) (hS : St w [] H w') : Holds L w' := ⟨fun p hp => hS.oldBlock (by simp) (hh.own p hp), hh.nd⟩
end Go.Eng
namespace Go.Proofs.YthpmmfapolcaiaaGreatDoor
open Go Go.Eng Go.Proofs
def OpenPost (o : Option Bytes) (v : Value) (w w' : World) : Prop := match o with
  | none => v = .tuple ⟨[.pointer none, .int .i64 34]⟩ ∧ St w [] [] w'
  | some p => ∃ rr rb, v = .tuple ⟨[ptr rr, .int .i64 0]⟩ ∧ St w [] (rdH rr rb ⟨p, false⟩) w'
theorem firstM_err (t : Bytes) (k : Nat) : (firstM t k).2.2 = 0 ∨ (firstM t k).2.2 = 1 := by
  unfold firstM
  split
  · exact .inr rfl
  · split
    · exact .inr rfl
    · split
      · exact .inl rfl
      · exact .inr rfl
theorem open_spec {w : World} {t : Bytes} (ht : t.length ≤ 140737488355328) : Cl Tryz.prog f_wire_open [Str t] w fun v w' => OpenPost (openS t) v w w' := by
  have hS := St.start w
  have he := firstM_err t 0
  refine en_wire_open rfl ?_
  repeat (first | refine SemW.run tblOk ?_ | refine jA (by omega) ?_ | refine jB (by omega) ?_ | refine jC (by omega) ?_ | refine jD (by omega) ?_ | refine jE rfl ?_ | refine jF (by omega) ?_ | (refine jG ?_; first | with_reducible (first | refine jH ?_ | refine jI ?_ | refine jJ ?_ | refine jK ?_ | refine jL ?_) | refine jM (by omega) ?_ | refine jN (by omega) ?_ | with_reducible refine jM rfl ?_ | refine jM (by assumption) ?_ | refine jN (by assumption) ?_ | refine jM (by decide) ?_ | refine jN (by decide) ?_) | refine jF (ptr_ok tblOk rfl rfl) ?_ | refine jO (fun _ => by kernel_rfl) ?_ | refine jF (by decide) ?_)
  refine Cl.mono (First_spec t 0 ht (Nat.zero_le _)) ?_
  rintro _ w1 ⟨rfl, hS'⟩
  have hS := hS.call0 hS'
  unfold openS
  generalize firstM t 0 = x at hS he ⊢
  obtain ⟨p, e, er⟩ := x
  simp only at he ⊢
  rcases he with rfl | rfl
  · by_cases hl : e = t.length
    · rw [if_pos ⟨rfl, hl⟩]
      repeat (first | refine SemW.run tblOk ?_ | refine jA (by omega) ?_ | refine jB (by omega) ?_ | refine jC (by omega) ?_ | refine jD (by omega) ?_ | refine jE rfl ?_ | refine jF (by omega) ?_ | (refine jG ?_; first | with_reducible (first | refine jH ?_ | refine jI ?_ | refine jJ ?_ | refine jK ?_ | refine jL ?_) | refine jM (by omega) ?_ | refine jN (by omega) ?_ | with_reducible refine jM rfl ?_ | refine jM (by assumption) ?_ | refine jN (by assumption) ?_ | refine jM (by decide) ?_ | refine jN (by decide) ?_) | refine jF (ptr_ok tblOk rfl rfl) ?_ | refine jO (fun _ => by kernel_rfl) ?_ | refine jF (by decide) ?_)
      refine Cl.mono PRead_spec ?_
      rintro _ w2 ⟨rb, rfl, hS'⟩
      have hS := hS.callNew hS'
      repeat (first | refine SemW.run tblOk ?_ | refine jA (by omega) ?_ | refine jB (by omega) ?_ | refine jC (by omega) ?_ | refine jD (by omega) ?_ | refine jE rfl ?_ | refine jF (by omega) ?_ | (refine jG ?_; first | with_reducible (first | refine jH ?_ | refine jI ?_ | refine jJ ?_ | refine jK ?_ | refine jL ?_) | refine jM (by omega) ?_ | refine jN (by omega) ?_ | with_reducible refine jM rfl ?_ | refine jM (by assumption) ?_ | refine jN (by assumption) ?_ | refine jM (by decide) ?_ | refine jN (by decide) ?_) | refine jF (ptr_ok tblOk rfl rfl) ?_ | refine jO (fun _ => by kernel_rfl) ?_ | refine jF (by decide) ?_ | refine hS.ld rfl ?_ | refine hS.ldn rfl ?_ | (refine hS.st rfl rfl ?_; intro _ hS))
      refine hS.al ?_
      intro rr w3 _ hS
      repeat (first | refine SemW.run tblOk ?_ | refine jA (by omega) ?_ | refine jB (by omega) ?_ | refine jC (by omega) ?_ | refine jD (by omega) ?_ | refine jE rfl ?_ | refine jF (by omega) ?_ | (refine jG ?_; first | with_reducible (first | refine jH ?_ | refine jI ?_ | refine jJ ?_ | refine jK ?_ | refine jL ?_) | refine jM (by omega) ?_ | refine jN (by omega) ?_ | with_reducible refine jM rfl ?_ | refine jM (by assumption) ?_ | refine jN (by assumption) ?_ | refine jM (by decide) ?_ | refine jN (by decide) ?_) | refine jF (ptr_ok tblOk rfl rfl) ?_ | refine jO (fun _ => by kernel_rfl) ?_ | refine jF (by decide) ?_)
      exact ⟨rr, rb, rfl, hS⟩
    · rw [if_neg (fun h => hl h.2)]
      repeat (first | refine SemW.run tblOk ?_ | refine jA (by omega) ?_ | refine jB (by omega) ?_ | refine jC (by omega) ?_ | refine jD (by omega) ?_ | refine jE rfl ?_ | refine jF (by omega) ?_ | (refine jG ?_; first | with_reducible (first | refine jH ?_ | refine jI ?_ | refine jJ ?_ | refine jK ?_ | refine jL ?_) | refine jM (by omega) ?_ | refine jN (by omega) ?_ | with_reducible refine jM rfl ?_ | refine jM (by assumption) ?_ | refine jN (by assumption) ?_ | refine jM (by decide) ?_ | refine jN (by decide) ?_) | refine jF (ptr_ok tblOk rfl rfl) ?_ | refine jO (fun _ => by kernel_rfl) ?_ | refine jF (by decide) ?_)
      exact ⟨rfl, hS⟩
  · rw [if_neg (by rintro ⟨h, -⟩; cases h)]
    repeat (first | refine SemW.run tblOk ?_ | refine jA (by omega) ?_ | refine jB (by omega) ?_ | refine jC (by omega) ?_ | refine jD (by omega) ?_ | refine jE rfl ?_ | refine jF (by omega) ?_ | (refine jG ?_; first | with_reducible (first | refine jH ?_ | refine jI ?_ | refine jJ ?_ | refine jK ?_ | refine jL ?_) | refine jM (by omega) ?_ | refine jN (by omega) ?_ | with_reducible refine jM rfl ?_ | refine jM (by assumption) ?_ | refine jN (by assumption) ?_ | refine jM (by decide) ?_ | refine jN (by decide) ?_) | refine jF (ptr_ok tblOk rfl rfl) ?_ | refine jO (fun _ => by kernel_rfl) ?_ | refine jF (by decide) ?_)
    exact ⟨rfl, hS⟩
theorem sealB_one (p : Bytes) : sealB [p] = frameB p := by simp [sealB]
theorem okLens_one (p : Bytes) : okLens [p] = decide (p.length ≤ 65536) := by simp [okLens]
set_option maxHeartbeats 1000000 in
theorem wseal_spec {w : World} {pb : Nat} {bs : Bytes} {L : Heap} (hW : PackW pb bs L) (hh : Holds L w) (hlen : bs.length ≤ 70368744177664) :
    Cl Tryz.prog f_wire_writer_seal [wrV pb] w fun v w' => v = .tuple ⟨if bs.length ≤ 65536 then [Str (frameB bs), .int .i64 0] else [Str [], .int .i64 34]⟩ ∧ St w [] [] w' := by
  have hS := St.start w
  have hsl : sumLen [bs] = bs.length := by simp [sumLen]
  refine en_wire_writer_seal rfl ?_
  repeat (first | refine SemW.run tblOk ?_ | refine jA (by omega) ?_ | refine jB (by omega) ?_ | refine jC (by omega) ?_ | refine jD (by omega) ?_ | refine jE rfl ?_ | refine jF (by omega) ?_ | (refine jG ?_; first | with_reducible (first | refine jH ?_ | refine jI ?_ | refine jJ ?_ | refine jK ?_ | refine jL ?_) | refine jM (by omega) ?_ | refine jN (by omega) ?_ | with_reducible refine jM rfl ?_ | refine jM (by assumption) ?_ | refine jN (by assumption) ?_ | refine jM (by decide) ?_ | refine jN (by decide) ?_) | refine jF (ptr_ok tblOk rfl rfl) ?_ | refine jO (fun _ => by kernel_rfl) ?_ | refine jF (by decide) ?_)
  refine hS.al ?_
  intro tb w1 _ hS
  repeat (first | refine SemW.run tblOk ?_ | refine jA (by omega) ?_ | refine jB (by omega) ?_ | refine jC (by omega) ?_ | refine jD (by omega) ?_ | refine jE rfl ?_ | refine jF (by omega) ?_ | (refine jG ?_; first | with_reducible (first | refine jH ?_ | refine jI ?_ | refine jJ ?_ | refine jK ?_ | refine jL ?_) | refine jM (by omega) ?_ | refine jN (by omega) ?_ | with_reducible refine jM rfl ?_ | refine jM (by assumption) ?_ | refine jN (by assumption) ?_ | refine jM (by decide) ?_ | refine jN (by decide) ?_) | refine jF (ptr_ok tblOk rfl rfl) ?_ | refine jO (fun _ => by kernel_rfl) ?_ | refine jF (by decide) ?_ | refine hS.ld rfl ?_ | refine hS.ldn rfl ?_ | (refine hS.st rfl rfl ?_; intro _ hS))
  refine Cl.mono (Bytes_spec hW (hh.keep hS)) ?_
  rintro _ w2 ⟨rfl, hS'⟩
  have hS := hS.call0 ((hh.keep hS).same hS')
  repeat (first | refine SemW.run tblOk ?_ | refine jA (by omega) ?_ | refine jB (by omega) ?_ | refine jC (by omega) ?_ | refine jD (by omega) ?_ | refine jE rfl ?_ | refine jF (by omega) ?_ | (refine jG ?_; first | with_reducible (first | refine jH ?_ | refine jI ?_ | refine jJ ?_ | refine jK ?_ | refine jL ?_) | refine jM (by omega) ?_ | refine jN (by omega) ?_ | with_reducible refine jM rfl ?_ | refine jM (by assumption) ?_ | refine jN (by assumption) ?_ | refine jM (by decide) ?_ | refine jN (by decide) ?_) | refine jF (ptr_ok tblOk rfl rfl) ?_ | refine jO (fun _ => by kernel_rfl) ?_ | refine jF (by decide) ?_ | refine hS.ld rfl ?_ | refine hS.ldn rfl ?_ | (refine hS.st rfl rfl ?_; intro _ hS))
  refine hS.al ?_
  intro r w3 _ hS
  repeat (first | refine SemW.run tblOk ?_ | refine jA (by omega) ?_ | refine jB (by omega) ?_ | refine jC (by omega) ?_ | refine jD (by omega) ?_ | refine jE rfl ?_ | refine jF (by omega) ?_ | (refine jG ?_; first | with_reducible (first | refine jH ?_ | refine jI ?_ | refine jJ ?_ | refine jK ?_ | refine jL ?_) | refine jM (by omega) ?_ | refine jN (by omega) ?_ | with_reducible refine jM rfl ?_ | refine jM (by assumption) ?_ | refine jN (by assumption) ?_ | refine jM (by decide) ?_ | refine jN (by decide) ?_) | refine jF (ptr_ok tblOk rfl rfl) ?_ | refine jO (fun _ => by kernel_rfl) ?_ | refine jF (by decide) ?_ | refine hS.ld rfl ?_ | refine hS.ldn rfl ?_ | (refine hS.st rfl rfl ?_; intro _ hS))
  refine Cl.mono (Seal_spec (ps := [bs]) (by rw [hsl]; simp only [List.length_singleton]; omega) (hS.arr (b := r) (by simp))) ?_
  rintro _ w4 ⟨rfl, hS'⟩
  have hS := hS.call0 hS'
  rw [okLens_one, sealB_one]
  by_cases h : bs.length ≤ 65536
  · rw [if_pos h, if_pos (decide_eq_true h)]
    repeat (first | refine SemW.run tblOk ?_ | refine jA (by omega) ?_ | refine jB (by omega) ?_ | refine jC (by omega) ?_ | refine jD (by omega) ?_ | refine jE rfl ?_ | refine jF (by omega) ?_ | (refine jG ?_; first | with_reducible (first | refine jH ?_ | refine jI ?_ | refine jJ ?_ | refine jK ?_ | refine jL ?_) | refine jM (by omega) ?_ | refine jN (by omega) ?_ | with_reducible refine jM rfl ?_ | refine jM (by assumption) ?_ | refine jN (by assumption) ?_ | refine jM (by decide) ?_ | refine jN (by decide) ?_) | refine jF (ptr_ok tblOk rfl rfl) ?_ | refine jO (fun _ => by kernel_rfl) ?_ | refine jF (by decide) ?_ | refine hS.ld rfl ?_ | refine hS.ldn rfl ?_ | (refine hS.st rfl rfl ?_; intro _ hS))
    exact ⟨rfl, hS.nil⟩
  · rw [if_neg h, if_neg (by rw [decide_eq_false h]; nofun)]
    repeat (first | refine SemW.run tblOk ?_ | refine jA (by omega) ?_ | refine jB (by omega) ?_ | refine jC (by omega) ?_ | refine jD (by omega) ?_ | refine jE rfl ?_ | refine jF (by omega) ?_ | (refine jG ?_; first | with_reducible (first | refine jH ?_ | refine jI ?_ | refine jJ ?_ | refine jK ?_ | refine jL ?_) | refine jM (by omega) ?_ | refine jN (by omega) ?_ | with_reducible refine jM rfl ?_ | refine jM (by assumption) ?_ | refine jN (by assumption) ?_ | refine jM (by decide) ?_ | refine jN (by decide) ?_) | refine jF (ptr_ok tblOk rfl rfl) ?_ | refine jO (fun _ => by kernel_rfl) ?_ | refine jF (by decide) ?_ | refine hS.ld rfl ?_ | refine hS.ldn rfl ?_ | (refine hS.st rfl rfl ?_; intro _ hS))
    exact ⟨rfl, hS.nil⟩
theorem wText_size (s : RB) : (wText s).1.length ≤ s.t.length := by
  have := textO_len s.t
  unfold wText; simp only; omega
theorem wRow_tlen (s : RB) : (wRow s).2.t.length ≤ s.t.length := by
  unfold wRow tk
  exact Nat.le_trans (wText_tlen _) (Nat.le_trans (wMarks_tlen _ _) (wInts_tlen _ _))
theorem wRow_size (s : RB) : (wRow s).1.seats.length ≤ s.t.length := by
  unfold wRow tk
  exact Nat.le_trans (wText_size _) (Nat.le_trans (wMarks_tlen _ _) (wInts_tlen _ _))
theorem wRows_size : ∀ (n : Nat) (s : RB), ∀ r ∈ (wRows n s).1, r.seats.length ≤ s.t.length
  | 0, _, _, h => by cases h
  | n + 1, s, r, h => by
    rcases List.mem_cons.1 h with rfl | h
    · exact wRow_size s
    · exact Nat.le_trans (wRows_size n _ r h) (wRow_tlen s)
/-- No part of what is read is longer than what was read. -/
structure SizeC (n : Nat) (c : CmdM) : Prop where
  rows : c.rows.length ≤ n
  text : c.text.length ≤ n
  seats : ∀ r ∈ c.rows, r.seats.length ≤ n
theorem wField_size (k : CK) (kd q : Int) (s : RB) : SizeC s.t.length (wField k kd q s).1 := by
  cases k
  · have h1 := wInts_tlen 1 s
    have h2 := wNum_tlen (wInts 1 s).2.t.length (wInts 1 s).2
    have h3 := wNum_le (wInts 1 s).2.t.length (wInts 1 s).2
    refine ⟨?_, Nat.zero_le _, ?_⟩
    · show (wRows _ _).1.length ≤ _
      rw [wRows_len]; omega
    · intro r hr
      have := wRows_size _ _ r hr
      omega
  · exact ⟨Nat.zero_le _, Nat.zero_le _, by nofun⟩
  · exact ⟨Nat.zero_le _, Nat.zero_le _, by nofun⟩
  · exact ⟨Nat.zero_le _, Nat.zero_le _, by nofun⟩
  · exact ⟨Nat.zero_le _, Nat.zero_le _, by nofun⟩
  · exact ⟨Nat.zero_le _, Nat.zero_le _, by nofun⟩
  · exact ⟨Nat.zero_le _, wText_size s, by nofun⟩
  · exact ⟨Nat.zero_le _, Nat.zero_le _, by nofun⟩
def RdPost (o : Option CmdM) (v : Value) (w w' : World) : Prop := match o with
  | none => v = .tuple ⟨[cmdV (hdC 0 0) none 0, .int .i64 34]⟩ ∧ St w [] [] w'
  | some c => ∃ a cap L, v = .tuple ⟨[cmdV c a cap, .int .i64 0]⟩ ∧ Vec T_api_Row 5 a c.rows.length cap (c.rows.flatMap rowC) L ∧ St w [] L w'
def readC (t : Bytes) : Option CmdM := (openS t).bind cmdS
set_option maxHeartbeats 4000000 in
set_option maxRecDepth 4000 in
theorem ReadCommand_spec {w : World} {t : Bytes} (ht : t.length ≤ 140737488355328) : Cl Tryz.prog f_wire_ReadCommand [Str t] w fun v w' => RdPost (readC t) v w w' := by
  have hS := St.start w
  unfold readC
  refine en_wire_ReadCommand rfl ?_
  repeat (first | refine SemW.run tblOk ?_ | refine jA (by omega) ?_ | refine jB (by omega) ?_ | refine jC (by omega) ?_ | refine jD (by omega) ?_ | refine jE rfl ?_ | refine jF (by omega) ?_ | (refine jG ?_; first | with_reducible (first | refine jH ?_ | refine jI ?_ | refine jJ ?_ | refine jK ?_ | refine jL ?_) | refine jM (by omega) ?_ | refine jN (by omega) ?_ | with_reducible refine jM rfl ?_ | refine jM (by assumption) ?_ | refine jN (by assumption) ?_ | refine jM (by decide) ?_ | refine jN (by decide) ?_) | refine jF (ptr_ok tblOk rfl rfl) ?_ | refine jO (fun _ => by kernel_rfl) ?_ | refine jF (by decide) ?_)
  refine hS.al ?_
  intro b2 w1 _ hS
  repeat (first | refine SemW.run tblOk ?_ | refine jA (by omega) ?_ | refine jB (by omega) ?_ | refine jC (by omega) ?_ | refine jD (by omega) ?_ | refine jE rfl ?_ | refine jF (by omega) ?_ | (refine jG ?_; first | with_reducible (first | refine jH ?_ | refine jI ?_ | refine jJ ?_ | refine jK ?_ | refine jL ?_) | refine jM (by omega) ?_ | refine jN (by omega) ?_ | with_reducible refine jM rfl ?_ | refine jM (by assumption) ?_ | refine jN (by assumption) ?_ | refine jM (by decide) ?_ | refine jN (by decide) ?_) | refine jF (ptr_ok tblOk rfl rfl) ?_ | refine jO (fun _ => by kernel_rfl) ?_ | refine jF (by decide) ?_ | refine hS.ld rfl ?_ | refine hS.ldn rfl ?_ | (refine hS.st rfl rfl ?_; intro _ hS))
  refine Cl.mono (open_spec ht) ?_
  intro v w2 hO
  have hle : ∀ p, openS t = some p → p.length ≤ 65536 := fun p h => (openS_iff.1 h).2
  cases ho : openS t with
  | none =>
    rw [ho] at hO
    obtain ⟨rfl, hS'⟩ := hO
    have hS := hS.call0 hS'
    repeat (first | refine SemW.run tblOk ?_ | refine jA (by omega) ?_ | refine jB (by omega) ?_ | refine jC (by omega) ?_ | refine jD (by omega) ?_ | refine jE rfl ?_ | refine jF (by omega) ?_ | (refine jG ?_; first | with_reducible (first | refine jH ?_ | refine jI ?_ | refine jJ ?_ | refine jK ?_ | refine jL ?_) | refine jM (by omega) ?_ | refine jN (by omega) ?_ | with_reducible refine jM rfl ?_ | refine jM (by assumption) ?_ | refine jN (by assumption) ?_ | refine jM (by decide) ?_ | refine jN (by decide) ?_) | refine jF (ptr_ok tblOk rfl rfl) ?_ | refine jO (fun _ => by kernel_rfl) ?_ | refine jF (by decide) ?_ | refine hS.ld rfl ?_ | refine hS.ldn rfl ?_ | (refine hS.st rfl rfl ?_; intro _ hS))
    exact ⟨rfl, hS.nil⟩
  | some p =>
    rw [ho] at hO
    obtain ⟨rr, rb, rfl, hS'⟩ := hO
    have hpl := hle p ho
    have hS := hS.callNew hS'
    have hbind : (some p).bind cmdS = cmdS p := rfl
    rw [hbind]
    unfold cmdS tk
    simp only
    repeat (first | refine SemW.run tblOk ?_ | refine jA (by omega) ?_ | refine jB (by omega) ?_ | refine jC (by omega) ?_ | refine jD (by omega) ?_ | refine jE rfl ?_ | refine jF (by omega) ?_ | (refine jG ?_; first | with_reducible (first | refine jH ?_ | refine jI ?_ | refine jJ ?_ | refine jK ?_ | refine jL ?_) | refine jM (by omega) ?_ | refine jN (by omega) ?_ | with_reducible refine jM rfl ?_ | refine jM (by assumption) ?_ | refine jN (by assumption) ?_ | refine jM (by decide) ?_ | refine jN (by decide) ?_) | refine jF (ptr_ok tblOk rfl rfl) ?_ | refine jO (fun _ => by kernel_rfl) ?_ | refine jF (by decide) ?_ | refine hS.ld rfl ?_ | refine hS.ldn rfl ?_ | (refine hS.st rfl rfl ?_; intro _ hS))
    refine Cl.mono (rnum_spec (s := ⟨p, false⟩) (most := 15) (hS.part (L := rdH rr rb ⟨p, false⟩)) (by simp only; omega) (by omega)) ?_
    rintro _ w3 ⟨rfl, hS'⟩
    have hS := hS.call (L := rdH rr rb ⟨p, false⟩) hS'
    have hn := wNum_le 15 ⟨p, false⟩
    have ht1 := wNum_tlen 15 ⟨p, false⟩
    generalize wNum 15 ⟨p, false⟩ = x at hS hn ht1 ⊢
    obtain ⟨n, s1⟩ := x
    simp only at hS hn ht1 ⊢
    repeat (first | refine SemW.run tblOk ?_ | refine jA (by omega) ?_ | refine jB (by omega) ?_ | refine jC (by omega) ?_ | refine jD (by omega) ?_ | refine jE rfl ?_ | refine jF (by omega) ?_ | (refine jG ?_; first | with_reducible (first | refine jH ?_ | refine jI ?_ | refine jJ ?_ | refine jK ?_ | refine jL ?_) | refine jM (by omega) ?_ | refine jN (by omega) ?_ | with_reducible refine jM rfl ?_ | refine jM (by assumption) ?_ | refine jN (by assumption) ?_ | refine jM (by decide) ?_ | refine jN (by decide) ?_) | refine jF (ptr_ok tblOk rfl rfl) ?_ | refine jO (fun _ => by kernel_rfl) ?_ | refine jF (by decide) ?_ | refine hS.ld rfl ?_ | refine hS.ldn rfl ?_ | (refine hS.st rfl rfl ?_; intro _ hS))
    refine hS.al ?_
    intro cb w4 _ hS
    repeat (first | refine SemW.run tblOk ?_ | refine jA (by omega) ?_ | refine jB (by omega) ?_ | refine jC (by omega) ?_ | refine jD (by omega) ?_ | refine jE rfl ?_ | refine jF (by omega) ?_ | (refine jG ?_; first | with_reducible (first | refine jH ?_ | refine jI ?_ | refine jJ ?_ | refine jK ?_ | refine jL ?_) | refine jM (by omega) ?_ | refine jN (by omega) ?_ | with_reducible refine jM rfl ?_ | refine jM (by assumption) ?_ | refine jN (by assumption) ?_ | refine jM (by decide) ?_ | refine jN (by decide) ?_) | refine jF (ptr_ok tblOk rfl rfl) ?_ | refine jO (fun _ => by kernel_rfl) ?_ | refine jF (by decide) ?_ | refine hS.ld rfl ?_ | refine hS.ldn rfl ?_ | (refine hS.st rfl rfl ?_; intro _ hS))
    have hS : St w [] (tgH cb (cmdC (hdC n 0) none 0) T_api_Command rr rb s1 ++ [(b2, .cells ⟨cmdC (hdC 0 0) none 0⟩ T_api_Command (0, 0))]) _ := hS
    refine hS.al ?_
    intro r w5 _ hS
    repeat (first | refine SemW.run tblOk ?_ | refine jA (by omega) ?_ | refine jB (by omega) ?_ | refine jC (by omega) ?_ | refine jD (by omega) ?_ | refine jE rfl ?_ | refine jF (by omega) ?_ | (refine jG ?_; first | with_reducible (first | refine jH ?_ | refine jI ?_ | refine jJ ?_ | refine jK ?_ | refine jL ?_) | refine jM (by omega) ?_ | refine jN (by omega) ?_ | with_reducible refine jM rfl ?_ | refine jM (by assumption) ?_ | refine jN (by assumption) ?_ | refine jM (by decide) ?_ | refine jN (by decide) ?_) | refine jF (ptr_ok tblOk rfl rfl) ?_ | refine jO (fun _ => by kernel_rfl) ?_ | refine jF (by decide) ?_ | refine hS.ld rfl ?_ | refine hS.ldn rfl ?_ | (refine hS.st rfl rfl ?_; intro _ hS))
    refine Cl.mono (rint_spec (b := cb) (s := s1) (hS.part (L := tgH cb (cmdC (hdC n 0) none 0) T_api_Command rr rb s1)) (by omega) (offs := [1]) (hS.arr (b := r) (show r ∉ [cb, rr, rb] from nodup_chunk (L := tgH cb (cmdC (hdC n 0) none 0) T_api_Command rr rb s1) hS)) (by simp) (by simp)) ?_
    rintro _ w6 hS'
    have hS := (hS.call (L := tgH cb (cmdC (hdC n 0) none 0) T_api_Command rr rb s1) hS').sub (List.sublist_cons_self _ _)
    have hS : St w [] (tgH cb (cmdC (hdC n (rbInt s1).1) none 0) T_api_Command rr rb (rbInt s1).2 ++ [(b2, .cells ⟨cmdC (hdC 0 0) none 0⟩ T_api_Command (0, 0))]) w6 := hS
    have ht2 := rbInt_len' s1
    generalize rbInt s1 = y at hS ht2 ⊢
    obtain ⟨q, t2, bad2⟩ := y
    simp only at hS ht2 ⊢
    have hS : St w [] ((cb, .cells ⟨[.int .i64 (n : Int), .int .i64 q, .int .i64 0, .int .i64 0, .int .i64 0, .int .i64 0, .int .i64 0, .bool false, .bool false, .bool false, .bool false, .int .i64 0, .int .u8 0, .slice none 0 0, .int .i64 0, .int .i64 0, .int .i64 0, .int .i64 0, Str []]⟩ T_api_Command (0, 0)) :: (rr, .cells ⟨[ptr rb, .bool bad2]⟩ T_wire_reader (0, 0)) :: (rb, .cells ⟨[Str t2]⟩ T_pack_Reader (0, 0)) :: [(b2, .cells ⟨cmdC (hdC 0 0) none 0⟩ T_api_Command (0, 0))]) w6 := hS
    cases bad2 with
    | true =>
      rw [if_pos (.inl rfl)]
      repeat (first | refine SemW.run tblOk ?_ | refine jA (by omega) ?_ | refine jB (by omega) ?_ | refine jC (by omega) ?_ | refine jD (by omega) ?_ | refine jE rfl ?_ | refine jF (by omega) ?_ | (refine jG ?_; first | with_reducible (first | refine jH ?_ | refine jI ?_ | refine jJ ?_ | refine jK ?_ | refine jL ?_) | refine jM (by omega) ?_ | refine jN (by omega) ?_ | with_reducible refine jM rfl ?_ | refine jM (by assumption) ?_ | refine jN (by assumption) ?_ | refine jM (by decide) ?_ | refine jN (by decide) ?_) | refine jF (ptr_ok tblOk rfl rfl) ?_ | refine jO (fun _ => by kernel_rfl) ?_ | refine jF (by decide) ?_ | refine hS.ld rfl ?_ | refine hS.ldn rfl ?_ | (refine hS.st rfl rfl ?_; intro _ hS))
      exact ⟨rfl, hS.nil⟩
    | false =>
      by_cases hn0 : n = 0
      · rw [if_pos (.inr hn0)]
        repeat (first | refine SemW.run tblOk ?_ | refine jA (by omega) ?_ | refine jB (by omega) ?_ | refine jC (by omega) ?_ | refine jD (by omega) ?_ | refine jE rfl ?_ | refine jF (by omega) ?_ | (refine jG ?_; first | with_reducible (first | refine jH ?_ | refine jI ?_ | refine jJ ?_ | refine jK ?_ | refine jL ?_) | refine jM (by omega) ?_ | refine jN (by omega) ?_ | with_reducible refine jM rfl ?_ | refine jM (by assumption) ?_ | refine jN (by assumption) ?_ | refine jM (by decide) ?_ | refine jN (by decide) ?_) | refine jF (ptr_ok tblOk rfl rfl) ?_ | refine jO (fun _ => by kernel_rfl) ?_ | refine jF (by decide) ?_ | refine hS.ld rfl ?_ | refine hS.ldn rfl ?_ | (refine hS.st rfl rfl ?_; intro _ hS))
        exact ⟨rfl, hS.nil⟩
      · rw [if_neg (by rintro (h | h); (· cases h); exact hn0 h)]
        repeat (first | refine SemW.run tblOk ?_ | refine jA (by omega) ?_ | refine jB (by omega) ?_ | refine jC (by omega) ?_ | refine jD (by omega) ?_ | refine jE rfl ?_ | refine jF (by omega) ?_ | (refine jG ?_; first | with_reducible (first | refine jH ?_ | refine jI ?_ | refine jJ ?_ | refine jK ?_ | refine jL ?_) | refine jM (by omega) ?_ | refine jN (by omega) ?_ | with_reducible refine jM rfl ?_ | refine jM (by assumption) ?_ | refine jN (by assumption) ?_ | refine jM (by decide) ?_ | refine jN (by decide) ?_) | refine jF (ptr_ok tblOk rfl rfl) ?_ | refine jO (fun _ => by kernel_rfl) ?_ | refine jF (by decide) ?_ | refine hS.ld rfl ?_ | refine hS.ldn rfl ?_ | (refine hS.st rfl rfl ?_; intro _ hS))
        refine Cl.mono (command_rd (k := (n : Int)) (q := q) (s := ⟨t2, false⟩) (hS.part (L := cmdH cb rr rb (hdC n q) none 0 ⟨t2, false⟩ [])) (by simp only; omega)) ?_
        rintro _ w7 ⟨a, cap, Lv, hv, hS'⟩
        have hS := hS.call (L := cmdH cb rr rb (hdC n q) none 0 ⟨t2, false⟩ []) hS'
        have hsz := wField_size (ckOf (n : Int)) n q ⟨t2, false⟩
        generalize wField (ckOf (n : Int)) n q ⟨t2, false⟩ = z at hv hS hsz ⊢
        obtain ⟨c, t3, bad3⟩ := z
        simp only at hv hS hsz ⊢
        have hsr := hsz.rows
        have hst := hsz.text
        have hS : St w [] ((cb, .cells ⟨cmdC c a cap⟩ T_api_Command (0, 0)) :: (rr, .cells ⟨[ptr rb, .bool bad3]⟩ T_wire_reader (0, 0)) :: (rb, .cells ⟨[Str t3]⟩ T_pack_Reader (0, 0)) :: (Lv ++ [(b2, .cells ⟨cmdC (hdC 0 0) none 0⟩ T_api_Command (0, 0))])) w7 := hS
        cases bad3 with
        | true =>
          rw [if_pos (.inl rfl)]
          repeat (first | refine SemW.run tblOk ?_ | refine jA (by omega) ?_ | refine jB (by omega) ?_ | refine jC (by omega) ?_ | refine jD (by omega) ?_ | refine jE rfl ?_ | refine jF (by omega) ?_ | (refine jG ?_; first | with_reducible (first | refine jH ?_ | refine jI ?_ | refine jJ ?_ | refine jK ?_ | refine jL ?_) | refine jM (by omega) ?_ | refine jN (by omega) ?_ | with_reducible refine jM rfl ?_ | refine jM (by assumption) ?_ | refine jN (by assumption) ?_ | refine jM (by decide) ?_ | refine jN (by decide) ?_) | refine jF (ptr_ok tblOk rfl rfl) ?_ | refine jO (fun _ => by kernel_rfl) ?_ | refine jF (by decide) ?_ | refine hS.ld rfl ?_ | refine hS.ldn rfl ?_ | (refine hS.st rfl rfl ?_; intro _ hS))
          exact ⟨rfl, hS.nil⟩
        | false =>
          repeat (first | refine SemW.run tblOk ?_ | refine jA (by omega) ?_ | refine jB (by omega) ?_ | refine jC (by omega) ?_ | refine jD (by omega) ?_ | refine jE rfl ?_ | refine jF (by omega) ?_ | (refine jG ?_; first | with_reducible (first | refine jH ?_ | refine jI ?_ | refine jJ ?_ | refine jK ?_ | refine jL ?_) | refine jM (by omega) ?_ | refine jN (by omega) ?_ | with_reducible refine jM rfl ?_ | refine jM (by assumption) ?_ | refine jN (by assumption) ?_ | refine jM (by decide) ?_ | refine jN (by decide) ?_) | refine jF (ptr_ok tblOk rfl rfl) ?_ | refine jO (fun _ => by kernel_rfl) ?_ | refine jF (by decide) ?_ | refine hS.ld rfl ?_ | refine hS.ldn rfl ?_ | (refine hS.st rfl rfl ?_; intro _ hS))
          refine Cl.mono (RDone_spec (t := t3) (hS.part (L := [(rb, rdC t3)]))) ?_
          rintro _ w8 ⟨rfl, hS'⟩
          have hS := hS.call0 hS'
          by_cases ht3 : t3 = []
          · rw [decide_eq_true ht3]
            repeat (first | refine SemW.run tblOk ?_ | refine jA (by omega) ?_ | refine jB (by omega) ?_ | refine jC (by omega) ?_ | refine jD (by omega) ?_ | refine jE rfl ?_ | refine jF (by omega) ?_ | (refine jG ?_; first | with_reducible (first | refine jH ?_ | refine jI ?_ | refine jJ ?_ | refine jK ?_ | refine jL ?_) | refine jM (by omega) ?_ | refine jN (by omega) ?_ | with_reducible refine jM rfl ?_ | refine jM (by assumption) ?_ | refine jN (by assumption) ?_ | refine jM (by decide) ?_ | refine jN (by decide) ?_) | refine jF (ptr_ok tblOk rfl rfl) ?_ | refine jO (fun _ => by kernel_rfl) ?_ | refine jF (by decide) ?_ | refine hS.ld rfl ?_ | refine hS.ldn rfl ?_ | (refine hS.st rfl rfl ?_; intro _ hS))
            refine Cl.mono (wsmall_spec c (rowsAt_vec (L := Lv) hS hv) (by omega) (by omega) (fun r hr => by have := hsz.seats r hr; omega)) ?_
            rintro _ w9 ⟨rfl, hS'⟩
            have hS := hS.call0 hS'
            cases hsm : smallC c with
            | true =>
              rw [if_neg (by rintro (h | h | h); (· cases h); (· exact h ht3); cases h)]
              repeat (first | refine SemW.run tblOk ?_ | refine jA (by omega) ?_ | refine jB (by omega) ?_ | refine jC (by omega) ?_ | refine jD (by omega) ?_ | refine jE rfl ?_ | refine jF (by omega) ?_ | (refine jG ?_; first | with_reducible (first | refine jH ?_ | refine jI ?_ | refine jJ ?_ | refine jK ?_ | refine jL ?_) | refine jM (by omega) ?_ | refine jN (by omega) ?_ | with_reducible refine jM rfl ?_ | refine jM (by assumption) ?_ | refine jN (by assumption) ?_ | refine jM (by decide) ?_ | refine jN (by decide) ?_) | refine jF (ptr_ok tblOk rfl rfl) ?_ | refine jO (fun _ => by kernel_rfl) ?_ | refine jF (by decide) ?_ | refine hS.ld rfl ?_ | refine hS.ldn rfl ?_ | (refine hS.st rfl rfl ?_; intro _ hS))
              exact ⟨a, cap, Lv, rfl, hv, hS.sub ((List.sublist_append_left Lv _).trans ((List.sublist_cons_self _ _).trans ((List.sublist_cons_self _ _).trans (List.sublist_cons_self _ _))))⟩
            | false =>
              rw [if_pos (.inr (.inr rfl))]
              repeat (first | refine SemW.run tblOk ?_ | refine jA (by omega) ?_ | refine jB (by omega) ?_ | refine jC (by omega) ?_ | refine jD (by omega) ?_ | refine jE rfl ?_ | refine jF (by omega) ?_ | (refine jG ?_; first | with_reducible (first | refine jH ?_ | refine jI ?_ | refine jJ ?_ | refine jK ?_ | refine jL ?_) | refine jM (by omega) ?_ | refine jN (by omega) ?_ | with_reducible refine jM rfl ?_ | refine jM (by assumption) ?_ | refine jN (by assumption) ?_ | refine jM (by decide) ?_ | refine jN (by decide) ?_) | refine jF (ptr_ok tblOk rfl rfl) ?_ | refine jO (fun _ => by kernel_rfl) ?_ | refine jF (by decide) ?_ | refine hS.ld rfl ?_ | refine hS.ldn rfl ?_ | (refine hS.st rfl rfl ?_; intro _ hS))
              exact ⟨rfl, hS.nil⟩
          · rw [decide_eq_false ht3, if_pos (.inr (.inl ht3))]
            repeat (first | refine SemW.run tblOk ?_ | refine jA (by omega) ?_ | refine jB (by omega) ?_ | refine jC (by omega) ?_ | refine jD (by omega) ?_ | refine jE rfl ?_ | refine jF (by omega) ?_ | (refine jG ?_; first | with_reducible (first | refine jH ?_ | refine jI ?_ | refine jJ ?_ | refine jK ?_ | refine jL ?_) | refine jM (by omega) ?_ | refine jN (by omega) ?_ | with_reducible refine jM rfl ?_ | refine jM (by assumption) ?_ | refine jN (by assumption) ?_ | refine jM (by decide) ?_ | refine jN (by decide) ?_) | refine jF (ptr_ok tblOk rfl rfl) ?_ | refine jO (fun _ => by kernel_rfl) ?_ | refine jF (by decide) ?_ | refine hS.ld rfl ?_ | refine hS.ldn rfl ?_ | (refine hS.st rfl rfl ?_; intro _ hS))
            exact ⟨rfl, hS.nil⟩
end Go.Proofs.YthpmmfapolcaiaaGreatDoor
