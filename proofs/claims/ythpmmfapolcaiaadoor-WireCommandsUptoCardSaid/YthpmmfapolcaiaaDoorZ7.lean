/- Texts of this claim, one behind the other. -/
import Derived.Test.YthpmmfapolcaiaaDoorZ5
import Derived.Test.YthpmmfapolcaiaaDoorZ6
import Derived.Test.YthpmmfapolcaiaaDoorZ0
import Derived.Test.YthpmmfapolcaiaaDoorZ3
import Derived.Test.YthpmmfapolcaiaaDoorZ4
import Derived.Test.YthpmmfapolcaiaaDoorZ2
import Derived.Test.YthpmmfapolcaiaaDoorZ1
/- tarmacref23.ReadCommand. -/
namespace Go.Proofs.YthpmmfapolcaiaaDoor
open Go Go.Eng Go.Proofs
structure RCI where
  c : CmdM
  s : RB
  a : Option Addr
  cap : Nat
theorem cmdO_if (c : CmdM) : cmdO c = [Str (if RightC c then frameB (cmdB c) else []), .int .i64 (if RightC c then 0 else 34)] := by
  unfold cmdO
  split <;> rfl
theorem wrap8 (n : Nat) : IntKind.u8.wrap (n : Int) = ((n % 256 : Nat) : Int) := by
  unfold IntKind.wrap
  simp [IntKind.signed, IntKind.bits]
theorem wrap64 (n : Nat) (h : n < 18446744073709551616) : IntKind.u64.wrap (n : Int) = (n : Int) := by
  unfold IntKind.wrap
  simp [IntKind.signed, IntKind.bits]
  omega
theorem eN_or (b c : Bool) : (if eN b < eN c then eN c else eN b) = eN (b || c) := by cases b <;> cases c <;> decide
set_option maxRecDepth 4000 in
set_option maxHeartbeats 8000000 in
theorem ReadCommand23_spec {w : World} {t : Bytes} (ht : t.length ≤ 1048576) : Cl Tryd.prog f_tarmacref23_ReadCommand [Str t] w fun v w' => RdPost (readC t) v w w' := by
  have hS := St.start w
  unfold readC
  refine en_tarmacref23_ReadCommand rfl ?_
  repeat (first | refine SemW.run tblOk ?_ | refine jA (by omega) ?_ | refine jB (by omega) ?_ | refine jC (by omega) ?_ | refine jD (by omega) ?_ | refine jE rfl ?_ | refine jF (by omega) ?_ | (refine jG ?_; first | with_reducible (first | refine jH ?_ | refine jI ?_ | refine jJ ?_ | refine jK ?_ | refine jL ?_) | refine jM (by omega) ?_ | refine jN (by omega) ?_ | with_reducible refine jM rfl ?_ | refine jM (by assumption) ?_ | refine jN (by assumption) ?_ | refine jM (by decide) ?_ | refine jN (by decide) ?_) | refine jF (ptr_ok tblOk rfl rfl) ?_ | refine jO (fun _ => by kernel_rfl) ?_ | refine jF (by decide) ?_)
  refine hS.al ?_
  intro b2 w1 _ hS
  repeat (first | refine SemW.run tblOk ?_ | refine jA (by omega) ?_ | refine jB (by omega) ?_ | refine jC (by omega) ?_ | refine jD (by omega) ?_ | refine jE rfl ?_ | refine jF (by omega) ?_ | (refine jG ?_; first | with_reducible (first | refine jH ?_ | refine jI ?_ | refine jJ ?_ | refine jK ?_ | refine jL ?_) | refine jM (by omega) ?_ | refine jN (by omega) ?_ | with_reducible refine jM rfl ?_ | refine jM (by assumption) ?_ | refine jN (by assumption) ?_ | refine jM (by decide) ?_ | refine jN (by decide) ?_) | refine jF (ptr_ok tblOk rfl rfl) ?_ | refine jO (fun _ => by kernel_rfl) ?_ | refine jF (by decide) ?_ | refine hS.ld rfl ?_ | refine hS.ldn rfl ?_ | (refine hS.st rfl rfl ?_; intro _ hS))
  refine Cl.mono (payload_spec (by omega)) ?_
  intro v w2 hO
  have hle : ∀ p, openS t = some p → p.length ≤ 65536 := fun p h => (openS_iff.1 h).2
  cases ho : openS t with
  | none =>
    rw [ho] at hO
    obtain ⟨rfl, hS'⟩ := hO
    have hS := hS.call0 hS'
    repeat (first | refine SemW.run tblOk ?_ | refine jA (by omega) ?_ | refine jB (by omega) ?_ | refine jC (by omega) ?_ | refine jD (by omega) ?_ | refine jE rfl ?_ | refine jF (by omega) ?_ | (refine jG ?_; first | with_reducible (first | refine jH ?_ | refine jI ?_ | refine jJ ?_ | refine jK ?_ | refine jL ?_) | refine jM (by omega) ?_ | refine jN (by omega) ?_ | with_reducible refine jM rfl ?_ | refine jM (by assumption) ?_ | refine jN (by assumption) ?_ | refine jM (by decide) ?_ | refine jN (by decide) ?_) | refine jF (ptr_ok tblOk rfl rfl) ?_ | refine jO (fun _ => by kernel_rfl) ?_ | refine jF (by decide) ?_ | refine hS.ld rfl ?_ | refine hS.ldn rfl ?_ | (refine hS.st rfl rfl ?_; intro _ hS))
    exact ⟨rfl, hS.nil⟩
  | some p =>
    rw [ho] at hO
    obtain ⟨xb, rb, rfl, hS'⟩ := hO
    have hpl := hle p ho
    have hS := hS.callNew hS'
    rw [Option.bind_some, ← check_cmd (by omega)]
    obtain ⟨X0, hX⟩ : ∃ X0, lCmd p = X0 := ⟨_, rfl⟩
    rw [hX]
    have hX0 := hX
    simp only [lCmd, tk] at hX
    have ht : (⟨p, false⟩ : RB).t.length ≤ 65536 := hpl
    repeat (first | refine SemW.run tblOk ?_ | refine jA (by omega) ?_ | refine jB (by omega) ?_ | refine jC (by omega) ?_ | refine jD (by omega) ?_ | refine jE rfl ?_ | refine jF (by omega) ?_ | (refine jG ?_; first | with_reducible (first | refine jH ?_ | refine jI ?_ | refine jJ ?_ | refine jK ?_ | refine jL ?_) | refine jM (by omega) ?_ | refine jN (by omega) ?_ | with_reducible refine jM rfl ?_ | refine jM (by assumption) ?_ | refine jN (by assumption) ?_ | refine jM (by decide) ?_ | refine jN (by decide) ?_) | refine jF (ptr_ok tblOk rfl rfl) ?_ | refine jO (fun _ => by kernel_rfl) ?_ | refine jF (by decide) ?_ | refine hS.ld rfl ?_ | refine hS.ldn rfl ?_ | (refine hS.st rfl rfl ?_; intro _ hS))
    refine Cl.mono (in_num (s := ⟨p, false⟩) (hS.part (L := inH xb rb (⟨p, false⟩))) (by omega)) ?_
    rintro _ w8 ⟨rfl, hS'⟩
    have hS := hS.call (L := inH xb rb (⟨p, false⟩)) hS'
    have hnl : (rbNum ⟨p, false⟩).1 < 18446744073709551616 := numO_lt _
    have ht := Nat.le_trans (rbNum_t ⟨p, false⟩) ht
    generalize rbNum ⟨p, false⟩ = y at hS ht hX hnl
    obtain ⟨k, s1⟩ := y
    simp only at hS ht hX hnl ⊢
    by_cases hk1 : k < 1
    · rw [if_pos (.inl hk1)] at hX
      rw [← hX]
      repeat (first | refine SemW.run tblOk ?_ | refine jA (by omega) ?_ | refine jB (by omega) ?_ | refine jC (by omega) ?_ | refine jD (by omega) ?_ | refine jE rfl ?_ | refine jF (by omega) ?_ | (refine jG ?_; first | with_reducible (first | refine jH ?_ | refine jI ?_ | refine jJ ?_ | refine jK ?_ | refine jL ?_) | refine jM (by omega) ?_ | refine jN (by omega) ?_ | with_reducible refine jM rfl ?_ | refine jM (by assumption) ?_ | refine jN (by assumption) ?_ | refine jM (by decide) ?_ | refine jN (by decide) ?_) | refine jF (ptr_ok tblOk rfl rfl) ?_ | refine jO (fun _ => by kernel_rfl) ?_ | refine jF (by decide) ?_ | refine hS.ld rfl ?_ | refine hS.ldn rfl ?_ | (refine hS.st rfl rfl ?_; intro _ hS))
      exact ⟨rfl, hS.nil⟩
    by_cases hk2 : 15 < k
    · rw [if_pos (.inr hk2)] at hX
      rw [← hX]
      repeat (first | refine SemW.run tblOk ?_ | refine jA (by omega) ?_ | refine jB (by omega) ?_ | refine jC (by omega) ?_ | refine jD (by omega) ?_ | refine jE rfl ?_ | refine jF (by omega) ?_ | (refine jG ?_; first | with_reducible (first | refine jH ?_ | refine jI ?_ | refine jJ ?_ | refine jK ?_ | refine jL ?_) | refine jM (by omega) ?_ | refine jN (by omega) ?_ | with_reducible refine jM rfl ?_ | refine jM (by assumption) ?_ | refine jN (by assumption) ?_ | refine jM (by decide) ?_ | refine jN (by decide) ?_) | refine jF (ptr_ok tblOk rfl rfl) ?_ | refine jO (fun _ => by kernel_rfl) ?_ | refine jF (by decide) ?_ | refine hS.ld rfl ?_ | refine hS.ldn rfl ?_ | (refine hS.st rfl rfl ?_; intro _ hS))
      exact ⟨rfl, hS.nil⟩
    rw [if_neg (by omega)] at hX
    repeat (first | refine SemW.run tblOk ?_ | refine jA (by omega) ?_ | refine jB (by omega) ?_ | refine jC (by omega) ?_ | refine jD (by omega) ?_ | refine jE rfl ?_ | refine jF (by omega) ?_ | (refine jG ?_; first | with_reducible (first | refine jH ?_ | refine jI ?_ | refine jJ ?_ | refine jK ?_ | refine jL ?_) | refine jM (by omega) ?_ | refine jN (by omega) ?_ | with_reducible refine jM rfl ?_ | refine jM (by assumption) ?_ | refine jN (by assumption) ?_ | refine jM (by decide) ?_ | refine jN (by decide) ?_) | refine jF (ptr_ok tblOk rfl rfl) ?_ | refine jO (fun _ => by kernel_rfl) ?_ | refine jF (by decide) ?_ | refine hS.ld rfl ?_ | refine hS.ldn rfl ?_ | (refine hS.st rfl rfl ?_; intro _ hS))
    refine Cl.mono (in_int (s := s1) (hS.part (L := inH xb rb (s1))) (by omega)) ?_
    rintro _ w8 ⟨rfl, hS'⟩
    have hS := hS.call (L := inH xb rb (s1)) hS'
    have ht := Nat.le_trans (rbInt_t s1) ht
    generalize rbInt s1 = y at hS ht hX
    obtain ⟨q, s2⟩ := y
    simp only at hS ht hX ⊢
    repeat (first | refine SemW.run tblOk ?_ | refine jA (by omega) ?_ | refine jB (by omega) ?_ | refine jC (by omega) ?_ | refine jD (by omega) ?_ | refine jE rfl ?_ | refine jF (by omega) ?_ | (refine jG ?_; first | with_reducible (first | refine jH ?_ | refine jI ?_ | refine jJ ?_ | refine jK ?_ | refine jL ?_) | refine jM (by omega) ?_ | refine jN (by omega) ?_ | with_reducible refine jM rfl ?_ | refine jM (by assumption) ?_ | refine jN (by assumption) ?_ | refine jM (by decide) ?_ | refine jN (by decide) ?_) | refine jF (ptr_ok tblOk rfl rfl) ?_ | refine jO (fun _ => by kernel_rfl) ?_ | refine jF (by decide) ?_ | refine hS.ld rfl ?_ | refine hS.ldn rfl ?_ | (refine hS.st rfl rfl ?_; intro _ hS))
    refine hS.al ?_
    intro ab w4 _ hS
    repeat (first | refine jA (by omega) ?_ | refine jB (by omega) ?_ | refine jC (by omega) ?_ | refine jD (by omega) ?_ | refine jE rfl ?_ | refine jF (by omega) ?_ | (refine jG ?_; first | with_reducible (first | refine jH ?_ | refine jI ?_ | refine jJ ?_ | refine jK ?_ | refine jL ?_) | refine jM (by omega) ?_ | refine jN (by omega) ?_ | with_reducible refine jM rfl ?_ | refine jM (by assumption) ?_ | refine jN (by assumption) ?_ | refine jM (by decide) ?_ | refine jN (by decide) ?_) | refine jF (ptr_ok tblOk rfl rfl) ?_ | refine jO (fun _ => by kernel_rfl) ?_ | refine jF (by decide) ?_ | refine hS.ld rfl ?_ | refine hS.ldn rfl ?_ | (refine hS.st rfl rfl ?_; intro _ hS))
    have hS : St w [] ((ab, cmdO29 (hdC k q) none 0) :: (inH xb rb s2 ++ [(b2, cmdO29 (hdC 0 0) none 0)])) _ := hS
    refine SemW.run tblOk ?_
    repeat (first | refine jA (by omega) ?_ | refine jB (by omega) ?_ | refine jC (by omega) ?_ | refine jD (by omega) ?_ | refine jE rfl ?_ | refine jF (by omega) ?_ | (refine jG ?_; first | with_reducible (first | refine jH ?_ | refine jI ?_ | refine jJ ?_ | refine jK ?_ | refine jL ?_) | refine jM (by omega) ?_ | refine jN (by omega) ?_ | with_reducible refine jM rfl ?_ | refine jM (by assumption) ?_ | refine jN (by assumption) ?_ | refine jM (by decide) ?_ | refine jN (by decide) ?_) | refine jF (ptr_ok tblOk rfl rfl) ?_ | refine jO (fun _ => by kernel_rfl) ?_ | refine jF (by decide) ?_ | refine hS.ld rfl ?_ | refine hS.ldn rfl ?_ | (refine hS.st rfl rfl ?_; intro _ hS))
    refine SemW.meet (fun z : RCI => [(0, Str t), (2, ptr b2), (4, ptr xb), (7, ptr ab)])
      (fun z w' => (some (z.c, z.s) = X0 ∧ z.s.t.length ≤ 65536) ∧ ∃ L, Vec T_api_Row 5 z.a z.c.rows.length z.cap (z.c.rows.flatMap rowC) L ∧ St w [] ((ab, cmdO29 z.c z.a z.cap) :: (inH xb rb z.s ++ (L ++ [(b2, cmdO29 (hdC 0 0) none 0)]))) w') ?_ ?_
    · unfold ckOf at hX
      have hb2 := b2
      by_cases h1 : (k : Int) = 1
      · rw [if_pos h1] at hX
        simp only [lField, tk, wInts, List.getD_cons_zero, List.getD_cons_succ] at hX
        repeat (first | refine SemW.run tblOk ?_ | refine jA (by omega) ?_ | refine jB (by omega) ?_ | refine jC (by omega) ?_ | refine jD (by omega) ?_ | refine jE rfl ?_ | refine jF (by omega) ?_ | (refine jG ?_; first | with_reducible (first | refine jH ?_ | refine jI ?_ | refine jJ ?_ | refine jK ?_ | refine jL ?_) | refine jM (by omega) ?_ | refine jN (by omega) ?_ | with_reducible refine jM rfl ?_ | refine jM (by assumption) ?_ | refine jN (by assumption) ?_ | refine jM (by decide) ?_ | refine jN (by decide) ?_) | refine jF (ptr_ok tblOk rfl rfl) ?_ | refine jO (fun _ => by kernel_rfl) ?_ | refine jF (by decide) ?_ | refine hS.ld rfl ?_ | refine hS.ldn rfl ?_ | (refine hS.st rfl rfl ?_; intro _ hS))
        refine Cl.mono (in_int (s := s2) (hS.part (L := inH xb rb (s2))) (by omega)) ?_
        rintro _ w8 ⟨rfl, hS'⟩
        have hS := hS.call (L := inH xb rb (s2)) hS'
        have ht := Nat.le_trans (rbInt_t s2) ht
        generalize rbInt s2 = y at hS ht hX
        obtain ⟨i0, s3⟩ := y
        simp only at hS ht hX ⊢
        repeat (first | refine SemW.run tblOk ?_ | refine jA (by omega) ?_ | refine jB (by omega) ?_ | refine jC (by omega) ?_ | refine jD (by omega) ?_ | refine jE rfl ?_ | refine jF (by omega) ?_ | (refine jG ?_; first | with_reducible (first | refine jH ?_ | refine jI ?_ | refine jJ ?_ | refine jK ?_ | refine jL ?_) | refine jM (by omega) ?_ | refine jN (by omega) ?_ | with_reducible refine jM rfl ?_ | refine jM (by assumption) ?_ | refine jN (by assumption) ?_ | refine jM (by decide) ?_ | refine jN (by decide) ?_) | refine jF (ptr_ok tblOk rfl rfl) ?_ | refine jO (fun _ => by kernel_rfl) ?_ | refine jF (by decide) ?_ | refine hS.ld rfl ?_ | refine hS.ldn rfl ?_ | (refine hS.st rfl rfl ?_; intro _ hS))
        refine Cl.mono (ReadRows22_spec (t := s3.t) (hS.part (L := [(rb, rdC' s3.t)])) (by omega)) ?_
        rintro _ w9 ⟨a9, c9, L9, rfl, hv, hS'⟩
        have hS := hS.call (L := [(rb, rdC' s3.t)]) hS'
        have hf := lRowsT_fit ht
        generalize lRowsT s3.t = y at hS hv hX hf ⊢
        obtain ⟨s4, rws⟩ := y
        simp only at hS hv hX hf ⊢
        repeat (first | refine SemW.run tblOk ?_ | refine jA (by omega) ?_ | refine jB (by omega) ?_ | refine jC (by omega) ?_ | refine jD (by omega) ?_ | refine jE rfl ?_ | refine jF (by omega) ?_ | (refine jG ?_; first | with_reducible (first | refine jH ?_ | refine jI ?_ | refine jJ ?_ | refine jK ?_ | refine jL ?_) | refine jM (by omega) ?_ | refine jN (by omega) ?_ | with_reducible refine jM rfl ?_ | refine jM (by assumption) ?_ | refine jN (by assumption) ?_ | refine jM (by decide) ?_ | refine jN (by decide) ?_) | refine jF (ptr_ok tblOk rfl rfl) ?_ | refine jO (fun _ => by kernel_rfl) ?_ | refine jF (by decide) ?_ | refine hS.ld rfl ?_ | refine hS.ldn rfl ?_ | (refine hS.st rfl rfl ?_; intro _ hS))
        rw [eN_or] at hS
        repeat (first | refine SemW.run tblOk ?_ | refine jA (by omega) ?_ | refine jB (by omega) ?_ | refine jC (by omega) ?_ | refine jD (by omega) ?_ | refine jE rfl ?_ | refine jF (by omega) ?_ | (refine jG ?_; first | with_reducible (first | refine jH ?_ | refine jI ?_ | refine jJ ?_ | refine jK ?_ | refine jL ?_) | refine jM (by omega) ?_ | refine jN (by omega) ?_ | with_reducible refine jM rfl ?_ | refine jM (by assumption) ?_ | refine jN (by assumption) ?_ | refine jM (by decide) ?_ | refine jN (by decide) ?_) | refine jF (ptr_ok tblOk rfl rfl) ?_ | refine jO (fun _ => by kernel_rfl) ?_ | refine jF (by decide) ?_ | refine hS.ld rfl ?_ | refine hS.ldn rfl ?_ | (refine hS.st rfl rfl ?_; intro _ hS))
        exact ⟨⟨{ hdC k q with id := i0, rows := rws }, ⟨s4.t, s3.bad || s4.bad⟩, a9, c9⟩, ⟨rfl, rfl, rfl, rfl, trivial⟩, ⟨hX, hf.t⟩, L9, hv, hS⟩
      rw [if_neg h1] at hX
      by_cases h2 : (k : Int) = 2
      · rw [if_pos h2] at hX
        simp only [lField, tk] at hX
        rw [show wInts 2 s2 = ([(rbInt s2).1, (rbInt (rbInt s2).2).1], (rbInt (rbInt s2).2).2) from rfl] at hX
        simp only [List.getD_cons_zero, List.getD_cons_succ] at hX
        repeat (first | refine SemW.run tblOk ?_ | refine jA (by omega) ?_ | refine jB (by omega) ?_ | refine jC (by omega) ?_ | refine jD (by omega) ?_ | refine jE rfl ?_ | refine jF (by omega) ?_ | (refine jG ?_; first | with_reducible (first | refine jH ?_ | refine jI ?_ | refine jJ ?_ | refine jK ?_ | refine jL ?_) | refine jM (by omega) ?_ | refine jN (by omega) ?_ | with_reducible refine jM rfl ?_ | refine jM (by assumption) ?_ | refine jN (by assumption) ?_ | refine jM (by decide) ?_ | refine jN (by decide) ?_) | refine jF (ptr_ok tblOk rfl rfl) ?_ | refine jO (fun _ => by kernel_rfl) ?_ | refine jF (by decide) ?_ | refine hS.ld rfl ?_ | refine hS.ldn rfl ?_ | (refine hS.st rfl rfl ?_; intro _ hS))
        refine Cl.mono (in_int (s := s2) (hS.part (L := inH xb rb (s2))) (by omega)) ?_
        rintro _ w8 ⟨rfl, hS'⟩
        have hS := hS.call (L := inH xb rb (s2)) hS'
        have ht := Nat.le_trans (rbInt_t s2) ht
        generalize rbInt s2 = y at hS ht hX
        obtain ⟨i0, s3⟩ := y
        simp only at hS ht hX ⊢
        repeat (first | refine SemW.run tblOk ?_ | refine jA (by omega) ?_ | refine jB (by omega) ?_ | refine jC (by omega) ?_ | refine jD (by omega) ?_ | refine jE rfl ?_ | refine jF (by omega) ?_ | (refine jG ?_; first | with_reducible (first | refine jH ?_ | refine jI ?_ | refine jJ ?_ | refine jK ?_ | refine jL ?_) | refine jM (by omega) ?_ | refine jN (by omega) ?_ | with_reducible refine jM rfl ?_ | refine jM (by assumption) ?_ | refine jN (by assumption) ?_ | refine jM (by decide) ?_ | refine jN (by decide) ?_) | refine jF (ptr_ok tblOk rfl rfl) ?_ | refine jO (fun _ => by kernel_rfl) ?_ | refine jF (by decide) ?_ | refine hS.ld rfl ?_ | refine hS.ldn rfl ?_ | (refine hS.st rfl rfl ?_; intro _ hS))
        refine Cl.mono (in_int (s := s3) (hS.part (L := inH xb rb (s3))) (by omega)) ?_
        rintro _ w8 ⟨rfl, hS'⟩
        have hS := hS.call (L := inH xb rb (s3)) hS'
        have ht := Nat.le_trans (rbInt_t s3) ht
        generalize rbInt s3 = y at hS ht hX
        obtain ⟨i1, s4⟩ := y
        simp only at hS ht hX ⊢
        repeat (first | refine SemW.run tblOk ?_ | refine jA (by omega) ?_ | refine jB (by omega) ?_ | refine jC (by omega) ?_ | refine jD (by omega) ?_ | refine jE rfl ?_ | refine jF (by omega) ?_ | (refine jG ?_; first | with_reducible (first | refine jH ?_ | refine jI ?_ | refine jJ ?_ | refine jK ?_ | refine jL ?_) | refine jM (by omega) ?_ | refine jN (by omega) ?_ | with_reducible refine jM rfl ?_ | refine jM (by assumption) ?_ | refine jN (by assumption) ?_ | refine jM (by decide) ?_ | refine jN (by decide) ?_) | refine jF (ptr_ok tblOk rfl rfl) ?_ | refine jO (fun _ => by kernel_rfl) ?_ | refine jF (by decide) ?_ | refine hS.ld rfl ?_ | refine hS.ldn rfl ?_ | (refine hS.st rfl rfl ?_; intro _ hS))
        refine SemW.loop (fun z : LI => [(0, Str t), (2, ptr b2), (4, ptr xb), (7, ptr ab), (75, .int .i64 z.k)])
          (fun z w' => ((z.l.length = z.k ∧ z.k ≤ 4) ∧ (z.l ++ (wInts (4 - z.l.length) z.s).1, (wInts (4 - z.l.length) z.s).2) = wInts 4 s4 ∧ z.s.t.length ≤ 65536) ∧ St w [] ((ab, cmdO29 { hdC k q with id := i0, eq := i1, l0 := z.l.getD 0 0, l1 := z.l.getD 1 0, l2 := z.l.getD 2 0, l3 := z.l.getD 3 0 } none 0) :: (inH xb rb z.s ++ [(b2, cmdO29 (hdC 0 0) none 0)])) w') (fun z => 4 - z.k) ⟨0, [], s4⟩
          ⟨rfl, rfl, rfl, rfl, rfl, trivial⟩ ⟨⟨⟨rfl, Nat.zero_le _⟩, rfl, ht⟩, hS⟩ ?_
        clear hS hS'
        rintro ⟨j, x, s5⟩ w7 ⟨⟨⟨hxk, hk4⟩, hx, ht⟩, hS⟩
        simp only at hxk hk4 hx ht hS ⊢
        by_cases hj : j < 4
        · have hx2 := wInts_step (n := 4) (by omega) hx
          have ht3 := rbInt_t s5
          repeat (first | refine SemW.run tblOk ?_ | refine jA (by omega) ?_ | refine jB (by omega) ?_ | refine jC (by omega) ?_ | refine jD (by omega) ?_ | refine jE rfl ?_ | refine jF (by omega) ?_ | (refine jG ?_; first | with_reducible (first | refine jH ?_ | refine jI ?_ | refine jJ ?_ | refine jK ?_ | refine jL ?_) | refine jM (by omega) ?_ | refine jN (by omega) ?_ | with_reducible refine jM rfl ?_ | refine jM (by assumption) ?_ | refine jN (by assumption) ?_ | refine jM (by decide) ?_ | refine jN (by decide) ?_) | refine jF (ptr_ok tblOk rfl rfl) ?_ | refine jO (fun _ => by kernel_rfl) ?_ | refine jF (by decide) ?_ | refine hS.ld rfl ?_ | refine hS.ldn rfl ?_ | (refine hS.st rfl rfl ?_; intro _ hS))
          refine Cl.mono (in_int (s := s5) (hS.part (L := inH xb rb s5)) (by omega)) ?_
          rintro _ w8 ⟨rfl, hS'⟩
          have hS := hS.call (L := inH xb rb s5) hS'
          generalize rbInt s5 = y at hS hx2 ht3 ⊢
          obtain ⟨v, s6⟩ := y
          simp only at hS hx2 ht3 ⊢
          rcases (show j = 0 ∨ j = 1 ∨ j = 2 ∨ j = 3 by omega) with rfl | rfl | rfl | rfl
          · obtain rfl := List.length_eq_zero_iff.1 hxk
            repeat (first | refine SemW.run tblOk ?_ | refine jA (by omega) ?_ | refine jB (by omega) ?_ | refine jC (by omega) ?_ | refine jD (by omega) ?_ | refine jE rfl ?_ | refine jF (by omega) ?_ | (refine jG ?_; first | with_reducible (first | refine jH ?_ | refine jI ?_ | refine jJ ?_ | refine jK ?_ | refine jL ?_) | refine jM (by omega) ?_ | refine jN (by omega) ?_ | with_reducible refine jM rfl ?_ | refine jM (by assumption) ?_ | refine jN (by assumption) ?_ | refine jM (by decide) ?_ | refine jN (by decide) ?_) | refine jF (ptr_ok tblOk rfl rfl) ?_ | refine jO (fun _ => by kernel_rfl) ?_ | refine jF (by decide) ?_ | refine hS.ld rfl ?_ | refine hS.ldn rfl ?_ | (refine hS.st rfl rfl ?_; intro _ hS))
            exact ⟨⟨1, [v], s6⟩, ⟨rfl, rfl, rfl, rfl, rfl, trivial⟩, ⟨⟨⟨rfl, by simp only; omega⟩, hx2, by simp only; omega⟩, hS⟩, by simp only; omega⟩
          · obtain ⟨y0, rfl⟩ : ∃ a, x = [a] := ⟨_, lst1 0 hxk⟩
            repeat (first | refine SemW.run tblOk ?_ | refine jA (by omega) ?_ | refine jB (by omega) ?_ | refine jC (by omega) ?_ | refine jD (by omega) ?_ | refine jE rfl ?_ | refine jF (by omega) ?_ | (refine jG ?_; first | with_reducible (first | refine jH ?_ | refine jI ?_ | refine jJ ?_ | refine jK ?_ | refine jL ?_) | refine jM (by omega) ?_ | refine jN (by omega) ?_ | with_reducible refine jM rfl ?_ | refine jM (by assumption) ?_ | refine jN (by assumption) ?_ | refine jM (by decide) ?_ | refine jN (by decide) ?_) | refine jF (ptr_ok tblOk rfl rfl) ?_ | refine jO (fun _ => by kernel_rfl) ?_ | refine jF (by decide) ?_ | refine hS.ld rfl ?_ | refine hS.ldn rfl ?_ | (refine hS.st rfl rfl ?_; intro _ hS))
            exact ⟨⟨2, [y0, v], s6⟩, ⟨rfl, rfl, rfl, rfl, rfl, trivial⟩, ⟨⟨⟨rfl, by simp only; omega⟩, hx2, by simp only; omega⟩, hS⟩, by simp only; omega⟩
          · obtain ⟨y0, y1, rfl⟩ : ∃ a b, x = [a, b] := ⟨_, _, lst2 0 hxk⟩
            repeat (first | refine SemW.run tblOk ?_ | refine jA (by omega) ?_ | refine jB (by omega) ?_ | refine jC (by omega) ?_ | refine jD (by omega) ?_ | refine jE rfl ?_ | refine jF (by omega) ?_ | (refine jG ?_; first | with_reducible (first | refine jH ?_ | refine jI ?_ | refine jJ ?_ | refine jK ?_ | refine jL ?_) | refine jM (by omega) ?_ | refine jN (by omega) ?_ | with_reducible refine jM rfl ?_ | refine jM (by assumption) ?_ | refine jN (by assumption) ?_ | refine jM (by decide) ?_ | refine jN (by decide) ?_) | refine jF (ptr_ok tblOk rfl rfl) ?_ | refine jO (fun _ => by kernel_rfl) ?_ | refine jF (by decide) ?_ | refine hS.ld rfl ?_ | refine hS.ldn rfl ?_ | (refine hS.st rfl rfl ?_; intro _ hS))
            exact ⟨⟨3, [y0, y1, v], s6⟩, ⟨rfl, rfl, rfl, rfl, rfl, trivial⟩, ⟨⟨⟨rfl, by simp only; omega⟩, hx2, by simp only; omega⟩, hS⟩, by simp only; omega⟩
          · obtain ⟨y0, y1, y2, rfl⟩ : ∃ a b c, x = [a, b, c] := ⟨_, _, _, lst3 0 hxk⟩
            repeat (first | refine SemW.run tblOk ?_ | refine jA (by omega) ?_ | refine jB (by omega) ?_ | refine jC (by omega) ?_ | refine jD (by omega) ?_ | refine jE rfl ?_ | refine jF (by omega) ?_ | (refine jG ?_; first | with_reducible (first | refine jH ?_ | refine jI ?_ | refine jJ ?_ | refine jK ?_ | refine jL ?_) | refine jM (by omega) ?_ | refine jN (by omega) ?_ | with_reducible refine jM rfl ?_ | refine jM (by assumption) ?_ | refine jN (by assumption) ?_ | refine jM (by decide) ?_ | refine jN (by decide) ?_) | refine jF (ptr_ok tblOk rfl rfl) ?_ | refine jO (fun _ => by kernel_rfl) ?_ | refine jF (by decide) ?_ | refine hS.ld rfl ?_ | refine hS.ldn rfl ?_ | (refine hS.st rfl rfl ?_; intro _ hS))
            exact ⟨⟨4, [y0, y1, y2, v], s6⟩, ⟨rfl, rfl, rfl, rfl, rfl, trivial⟩, ⟨⟨⟨rfl, by simp only; omega⟩, hx2, by simp only; omega⟩, hS⟩, by simp only; omega⟩
        · have hk4 : j = 4 := by omega
          rw [show 4 - x.length = 0 by omega] at hx
          have hx : (x, s5) = wInts 4 s4 := by simpa [wInts] using hx
          rw [← hx] at hX
          simp only at hX
          repeat (first | refine SemW.run tblOk ?_ | refine jA (by omega) ?_ | refine jB (by omega) ?_ | refine jC (by omega) ?_ | refine jD (by omega) ?_ | refine jE rfl ?_ | refine jF (by omega) ?_ | (refine jG ?_; first | with_reducible (first | refine jH ?_ | refine jI ?_ | refine jJ ?_ | refine jK ?_ | refine jL ?_) | refine jM (by omega) ?_ | refine jN (by omega) ?_ | with_reducible refine jM rfl ?_ | refine jM (by assumption) ?_ | refine jN (by assumption) ?_ | refine jM (by decide) ?_ | refine jN (by decide) ?_) | refine jF (ptr_ok tblOk rfl rfl) ?_ | refine jO (fun _ => by kernel_rfl) ?_ | refine jF (by decide) ?_ | refine hS.ld rfl ?_ | refine hS.ldn rfl ?_ | (refine hS.st rfl rfl ?_; intro _ hS))
          exact ⟨⟨{ hdC k q with id := i0, eq := i1, l0 := x.getD 0 0, l1 := x.getD 1 0, l2 := x.getD 2 0, l3 := x.getD 3 0 }, s5, none, 0⟩, ⟨rfl, rfl, rfl, rfl, trivial⟩, ⟨hX, ht⟩, [], Vec.nil, hS⟩
      rw [if_neg h2] at hX
      by_cases h3 : (k : Int) = 3
      · rw [if_pos h3] at hX
        simp only [lField, tk, wInts, List.getD_cons_zero, List.getD_cons_succ] at hX
        repeat (first | refine SemW.run tblOk ?_ | refine jA (by omega) ?_ | refine jB (by omega) ?_ | refine jC (by omega) ?_ | refine jD (by omega) ?_ | refine jE rfl ?_ | refine jF (by omega) ?_ | (refine jG ?_; first | with_reducible (first | refine jH ?_ | refine jI ?_ | refine jJ ?_ | refine jK ?_ | refine jL ?_) | refine jM (by omega) ?_ | refine jN (by omega) ?_ | with_reducible refine jM rfl ?_ | refine jM (by assumption) ?_ | refine jN (by assumption) ?_ | refine jM (by decide) ?_ | refine jN (by decide) ?_) | refine jF (ptr_ok tblOk rfl rfl) ?_ | refine jO (fun _ => by kernel_rfl) ?_ | refine jF (by decide) ?_ | refine hS.ld rfl ?_ | refine hS.ldn rfl ?_ | (refine hS.st rfl rfl ?_; intro _ hS))
        refine Cl.mono (in_int (s := s2) (hS.part (L := inH xb rb (s2))) (by omega)) ?_
        rintro _ w8 ⟨rfl, hS'⟩
        have hS := hS.call (L := inH xb rb (s2)) hS'
        have ht := Nat.le_trans (rbInt_t s2) ht
        generalize rbInt s2 = y at hS ht hX
        obtain ⟨i0, s3⟩ := y
        simp only at hS ht hX ⊢
        repeat (first | refine SemW.run tblOk ?_ | refine jA (by omega) ?_ | refine jB (by omega) ?_ | refine jC (by omega) ?_ | refine jD (by omega) ?_ | refine jE rfl ?_ | refine jF (by omega) ?_ | (refine jG ?_; first | with_reducible (first | refine jH ?_ | refine jI ?_ | refine jJ ?_ | refine jK ?_ | refine jL ?_) | refine jM (by omega) ?_ | refine jN (by omega) ?_ | with_reducible refine jM rfl ?_ | refine jM (by assumption) ?_ | refine jN (by assumption) ?_ | refine jM (by decide) ?_ | refine jN (by decide) ?_) | refine jF (ptr_ok tblOk rfl rfl) ?_ | refine jO (fun _ => by kernel_rfl) ?_ | refine jF (by decide) ?_ | refine hS.ld rfl ?_ | refine hS.ldn rfl ?_ | (refine hS.st rfl rfl ?_; intro _ hS))
        refine Cl.mono (in_int (s := s3) (hS.part (L := inH xb rb (s3))) (by omega)) ?_
        rintro _ w8 ⟨rfl, hS'⟩
        have hS := hS.call (L := inH xb rb (s3)) hS'
        have ht := Nat.le_trans (rbInt_t s3) ht
        generalize rbInt s3 = y at hS ht hX
        obtain ⟨i1, s4⟩ := y
        simp only at hS ht hX ⊢
        repeat (first | refine SemW.run tblOk ?_ | refine jA (by omega) ?_ | refine jB (by omega) ?_ | refine jC (by omega) ?_ | refine jD (by omega) ?_ | refine jE rfl ?_ | refine jF (by omega) ?_ | (refine jG ?_; first | with_reducible (first | refine jH ?_ | refine jI ?_ | refine jJ ?_ | refine jK ?_ | refine jL ?_) | refine jM (by omega) ?_ | refine jN (by omega) ?_ | with_reducible refine jM rfl ?_ | refine jM (by assumption) ?_ | refine jN (by assumption) ?_ | refine jM (by decide) ?_ | refine jN (by decide) ?_) | refine jF (ptr_ok tblOk rfl rfl) ?_ | refine jO (fun _ => by kernel_rfl) ?_ | refine jF (by decide) ?_ | refine hS.ld rfl ?_ | refine hS.ldn rfl ?_ | (refine hS.st rfl rfl ?_; intro _ hS))
        refine Cl.mono (in_int (s := s4) (hS.part (L := inH xb rb (s4))) (by omega)) ?_
        rintro _ w8 ⟨rfl, hS'⟩
        have hS := hS.call (L := inH xb rb (s4)) hS'
        have ht := Nat.le_trans (rbInt_t s4) ht
        generalize rbInt s4 = y at hS ht hX
        obtain ⟨i2, s5⟩ := y
        simp only at hS ht hX ⊢
        repeat (first | refine SemW.run tblOk ?_ | refine jA (by omega) ?_ | refine jB (by omega) ?_ | refine jC (by omega) ?_ | refine jD (by omega) ?_ | refine jE rfl ?_ | refine jF (by omega) ?_ | (refine jG ?_; first | with_reducible (first | refine jH ?_ | refine jI ?_ | refine jJ ?_ | refine jK ?_ | refine jL ?_) | refine jM (by omega) ?_ | refine jN (by omega) ?_ | with_reducible refine jM rfl ?_ | refine jM (by assumption) ?_ | refine jN (by assumption) ?_ | refine jM (by decide) ?_ | refine jN (by decide) ?_) | refine jF (ptr_ok tblOk rfl rfl) ?_ | refine jO (fun _ => by kernel_rfl) ?_ | refine jF (by decide) ?_ | refine hS.ld rfl ?_ | refine hS.ldn rfl ?_ | (refine hS.st rfl rfl ?_; intro _ hS))
        refine Cl.mono (in_int (s := s5) (hS.part (L := inH xb rb (s5))) (by omega)) ?_
        rintro _ w8 ⟨rfl, hS'⟩
        have hS := hS.call (L := inH xb rb (s5)) hS'
        have ht := Nat.le_trans (rbInt_t s5) ht
        generalize rbInt s5 = y at hS ht hX
        obtain ⟨i3, s6⟩ := y
        simp only at hS ht hX ⊢
        repeat (first | refine SemW.run tblOk ?_ | refine jA (by omega) ?_ | refine jB (by omega) ?_ | refine jC (by omega) ?_ | refine jD (by omega) ?_ | refine jE rfl ?_ | refine jF (by omega) ?_ | (refine jG ?_; first | with_reducible (first | refine jH ?_ | refine jI ?_ | refine jJ ?_ | refine jK ?_ | refine jL ?_) | refine jM (by omega) ?_ | refine jN (by omega) ?_ | with_reducible refine jM rfl ?_ | refine jM (by assumption) ?_ | refine jN (by assumption) ?_ | refine jM (by decide) ?_ | refine jN (by decide) ?_) | refine jF (ptr_ok tblOk rfl rfl) ?_ | refine jO (fun _ => by kernel_rfl) ?_ | refine jF (by decide) ?_ | refine hS.ld rfl ?_ | refine hS.ldn rfl ?_ | (refine hS.st rfl rfl ?_; intro _ hS))
        refine Cl.mono (in_num (s := s6) (hS.part (L := inH xb rb (s6))) (by omega)) ?_
        rintro _ w8 ⟨rfl, hS'⟩
        have hS := hS.call (L := inH xb rb (s6)) hS'
        have hnl : (rbNum s6).1 < 18446744073709551616 := numO_lt _
        have ht := Nat.le_trans (rbNum_t s6) ht
        generalize rbNum s6 = y at hS ht hX hnl
        obtain ⟨m, s7⟩ := y
        simp only at hS ht hX hnl ⊢
        rw [bits4'] at hX
        simp only [List.getD_cons_zero, List.getD_cons_succ] at hX
        have d2 : ((m : Int)).tdiv 2 = ((m / 2 : Nat) : Int) := tdivN m 2
        have d4 : ((m : Int)).tdiv 4 = ((m / 4 : Nat) : Int) := tdivN m 4
        have d8 : ((m : Int)).tdiv 8 = ((m / 8 : Nat) : Int) := tdivN m 8
        repeat (first | refine SemW.run tblOk ?_ | refine jA (by omega) ?_ | refine jB (by omega) ?_ | refine jC (by omega) ?_ | refine jD (by omega) ?_ | refine jE rfl ?_ | refine jF (by omega) ?_ | (refine jG ?_; first | with_reducible (first | refine jH ?_ | refine jI ?_ | refine jJ ?_ | refine jK ?_ | refine jL ?_) | refine jM (by omega) ?_ | refine jN (by omega) ?_ | with_reducible refine jM rfl ?_ | refine jM (by assumption) ?_ | refine jN (by assumption) ?_ | refine jM (by decide) ?_ | refine jN (by decide) ?_) | refine jF (ptr_ok tblOk rfl rfl) ?_ | refine jO (fun _ => by kernel_rfl) ?_ | refine jF (by decide) ?_ | refine hS.ld rfl ?_ | refine hS.ldn rfl ?_ | (refine hS.st rfl rfl ?_; intro _ hS))
        rw [d2, d4, d8] at hS
        try rw [wrap64 (m / 2) (by omega)] at hS
        try rw [wrap64 (m / 4) (by omega)] at hS
        try rw [wrap64 (m / 8) (by omega)] at hS
        repeat (first | refine SemW.run tblOk ?_ | refine jA (by omega) ?_ | refine jB (by omega) ?_ | refine jC (by omega) ?_ | refine jD (by omega) ?_ | refine jE rfl ?_ | refine jF (by omega) ?_ | (refine jG ?_; first | with_reducible (first | refine jH ?_ | refine jI ?_ | refine jJ ?_ | refine jK ?_ | refine jL ?_) | refine jM (by omega) ?_ | refine jN (by omega) ?_ | with_reducible refine jM rfl ?_ | refine jM (by assumption) ?_ | refine jN (by assumption) ?_ | refine jM (by decide) ?_ | refine jN (by decide) ?_) | refine jF (ptr_ok tblOk rfl rfl) ?_ | refine jO (fun _ => by kernel_rfl) ?_ | refine jF (by decide) ?_ | refine hS.ld rfl ?_ | refine hS.ldn rfl ?_ | (refine hS.st rfl rfl ?_; intro _ hS))
        exact ⟨⟨{ hdC k q with id := i0, fl := i1, wcab := i2, cls := i3, fit := decide ((m : Int).tmod 2 = 1), inf := decide (((m / 2 : Nat) : Int).tmod 2 = 1), vol := decide (((m / 4 : Nat) : Int).tmod 2 = 1), stb := decide (((m / 8 : Nat) : Int).tmod 2 = 1) }, s7, none, 0⟩, ⟨rfl, rfl, rfl, rfl, trivial⟩, ⟨hX, ht⟩, [], Vec.nil, hS⟩
      rw [if_neg h3] at hX
      by_cases h6 : (k : Int) = 6
      · rw [if_pos h6] at hX
        simp only [lField, tk, wInts, List.getD_cons_zero, List.getD_cons_succ] at hX
        repeat (first | refine SemW.run tblOk ?_ | refine jA (by omega) ?_ | refine jB (by omega) ?_ | refine jC (by omega) ?_ | refine jD (by omega) ?_ | refine jE rfl ?_ | refine jF (by omega) ?_ | (refine jG ?_; first | with_reducible (first | refine jH ?_ | refine jI ?_ | refine jJ ?_ | refine jK ?_ | refine jL ?_) | refine jM (by omega) ?_ | refine jN (by omega) ?_ | with_reducible refine jM rfl ?_ | refine jM (by assumption) ?_ | refine jN (by assumption) ?_ | refine jM (by decide) ?_ | refine jN (by decide) ?_) | refine jF (ptr_ok tblOk rfl rfl) ?_ | refine jO (fun _ => by kernel_rfl) ?_ | refine jF (by decide) ?_ | refine hS.ld rfl ?_ | refine hS.ldn rfl ?_ | (refine hS.st rfl rfl ?_; intro _ hS))
        refine Cl.mono (in_int (s := s2) (hS.part (L := inH xb rb (s2))) (by omega)) ?_
        rintro _ w8 ⟨rfl, hS'⟩
        have hS := hS.call (L := inH xb rb (s2)) hS'
        have ht := Nat.le_trans (rbInt_t s2) ht
        generalize rbInt s2 = y at hS ht hX
        obtain ⟨i0, s3⟩ := y
        simp only at hS ht hX ⊢
        repeat (first | refine SemW.run tblOk ?_ | refine jA (by omega) ?_ | refine jB (by omega) ?_ | refine jC (by omega) ?_ | refine jD (by omega) ?_ | refine jE rfl ?_ | refine jF (by omega) ?_ | (refine jG ?_; first | with_reducible (first | refine jH ?_ | refine jI ?_ | refine jJ ?_ | refine jK ?_ | refine jL ?_) | refine jM (by omega) ?_ | refine jN (by omega) ?_ | with_reducible refine jM rfl ?_ | refine jM (by assumption) ?_ | refine jN (by assumption) ?_ | refine jM (by decide) ?_ | refine jN (by decide) ?_) | refine jF (ptr_ok tblOk rfl rfl) ?_ | refine jO (fun _ => by kernel_rfl) ?_ | refine jF (by decide) ?_ | refine hS.ld rfl ?_ | refine hS.ldn rfl ?_ | (refine hS.st rfl rfl ?_; intro _ hS))
        refine Cl.mono (in_int (s := s3) (hS.part (L := inH xb rb (s3))) (by omega)) ?_
        rintro _ w8 ⟨rfl, hS'⟩
        have hS := hS.call (L := inH xb rb (s3)) hS'
        have ht := Nat.le_trans (rbInt_t s3) ht
        generalize rbInt s3 = y at hS ht hX
        obtain ⟨i1, s4⟩ := y
        simp only at hS ht hX ⊢
        repeat (first | refine SemW.run tblOk ?_ | refine jA (by omega) ?_ | refine jB (by omega) ?_ | refine jC (by omega) ?_ | refine jD (by omega) ?_ | refine jE rfl ?_ | refine jF (by omega) ?_ | (refine jG ?_; first | with_reducible (first | refine jH ?_ | refine jI ?_ | refine jJ ?_ | refine jK ?_ | refine jL ?_) | refine jM (by omega) ?_ | refine jN (by omega) ?_ | with_reducible refine jM rfl ?_ | refine jM (by assumption) ?_ | refine jN (by assumption) ?_ | refine jM (by decide) ?_ | refine jN (by decide) ?_) | refine jF (ptr_ok tblOk rfl rfl) ?_ | refine jO (fun _ => by kernel_rfl) ?_ | refine jF (by decide) ?_ | refine hS.ld rfl ?_ | refine hS.ldn rfl ?_ | (refine hS.st rfl rfl ?_; intro _ hS))
        refine Cl.mono (in_num (s := s4) (hS.part (L := inH xb rb (s4))) (by omega)) ?_
        rintro _ w8 ⟨rfl, hS'⟩
        have hS := hS.call (L := inH xb rb (s4)) hS'
        have hnl : (rbNum s4).1 < 18446744073709551616 := numO_lt _
        have ht := Nat.le_trans (rbNum_t s4) ht
        generalize rbNum s4 = y at hS ht hX hnl
        obtain ⟨m, s5⟩ := y
        simp only at hS ht hX hnl ⊢
        repeat (first | refine SemW.run tblOk ?_ | refine jA (by omega) ?_ | refine jB (by omega) ?_ | refine jC (by omega) ?_ | refine jD (by omega) ?_ | refine jE rfl ?_ | refine jF (by omega) ?_ | (refine jG ?_; first | with_reducible (first | refine jH ?_ | refine jI ?_ | refine jJ ?_ | refine jK ?_ | refine jL ?_) | refine jM (by omega) ?_ | refine jN (by omega) ?_ | with_reducible refine jM rfl ?_ | refine jM (by assumption) ?_ | refine jN (by assumption) ?_ | refine jM (by decide) ?_ | refine jN (by decide) ?_) | refine jF (ptr_ok tblOk rfl rfl) ?_ | refine jO (fun _ => by kernel_rfl) ?_ | refine jF (by decide) ?_ | refine hS.ld rfl ?_ | refine hS.ldn rfl ?_ | (refine hS.st rfl rfl ?_; intro _ hS))
        rw [wrap8] at hS
        repeat (first | refine SemW.run tblOk ?_ | refine jA (by omega) ?_ | refine jB (by omega) ?_ | refine jC (by omega) ?_ | refine jD (by omega) ?_ | refine jE rfl ?_ | refine jF (by omega) ?_ | (refine jG ?_; first | with_reducible (first | refine jH ?_ | refine jI ?_ | refine jJ ?_ | refine jK ?_ | refine jL ?_) | refine jM (by omega) ?_ | refine jN (by omega) ?_ | with_reducible refine jM rfl ?_ | refine jM (by assumption) ?_ | refine jN (by assumption) ?_ | refine jM (by decide) ?_ | refine jN (by decide) ?_) | refine jF (ptr_ok tblOk rfl rfl) ?_ | refine jO (fun _ => by kernel_rfl) ?_ | refine jF (by decide) ?_ | refine hS.ld rfl ?_ | refine hS.ldn rfl ?_ | (refine hS.st rfl rfl ?_; intro _ hS))
        exact ⟨⟨{ hdC k q with id := i0, num := i1, lt := m % 256 }, s5, none, 0⟩, ⟨rfl, rfl, rfl, rfl, trivial⟩, ⟨hX, ht⟩, [], Vec.nil, hS⟩
      rw [if_neg h6] at hX
      by_cases h8 : (k : Int) = 8
      · rw [if_pos h8] at hX
        simp only [lField, tk, wInts, List.getD_cons_zero, List.getD_cons_succ] at hX
        repeat (first | refine SemW.run tblOk ?_ | refine jA (by omega) ?_ | refine jB (by omega) ?_ | refine jC (by omega) ?_ | refine jD (by omega) ?_ | refine jE rfl ?_ | refine jF (by omega) ?_ | (refine jG ?_; first | with_reducible (first | refine jH ?_ | refine jI ?_ | refine jJ ?_ | refine jK ?_ | refine jL ?_) | refine jM (by omega) ?_ | refine jN (by omega) ?_ | with_reducible refine jM rfl ?_ | refine jM (by assumption) ?_ | refine jN (by assumption) ?_ | refine jM (by decide) ?_ | refine jN (by decide) ?_) | refine jF (ptr_ok tblOk rfl rfl) ?_ | refine jO (fun _ => by kernel_rfl) ?_ | refine jF (by decide) ?_ | refine hS.ld rfl ?_ | refine hS.ldn rfl ?_ | (refine hS.st rfl rfl ?_; intro _ hS))
        refine Cl.mono (in_int (s := s2) (hS.part (L := inH xb rb (s2))) (by omega)) ?_
        rintro _ w8 ⟨rfl, hS'⟩
        have hS := hS.call (L := inH xb rb (s2)) hS'
        have ht := Nat.le_trans (rbInt_t s2) ht
        generalize rbInt s2 = y at hS ht hX
        obtain ⟨i0, s3⟩ := y
        simp only at hS ht hX ⊢
        repeat (first | refine SemW.run tblOk ?_ | refine jA (by omega) ?_ | refine jB (by omega) ?_ | refine jC (by omega) ?_ | refine jD (by omega) ?_ | refine jE rfl ?_ | refine jF (by omega) ?_ | (refine jG ?_; first | with_reducible (first | refine jH ?_ | refine jI ?_ | refine jJ ?_ | refine jK ?_ | refine jL ?_) | refine jM (by omega) ?_ | refine jN (by omega) ?_ | with_reducible refine jM rfl ?_ | refine jM (by assumption) ?_ | refine jN (by assumption) ?_ | refine jM (by decide) ?_ | refine jN (by decide) ?_) | refine jF (ptr_ok tblOk rfl rfl) ?_ | refine jO (fun _ => by kernel_rfl) ?_ | refine jF (by decide) ?_ | refine hS.ld rfl ?_ | refine hS.ldn rfl ?_ | (refine hS.st rfl rfl ?_; intro _ hS))
        refine Cl.mono (in_int (s := s3) (hS.part (L := inH xb rb (s3))) (by omega)) ?_
        rintro _ w8 ⟨rfl, hS'⟩
        have hS := hS.call (L := inH xb rb (s3)) hS'
        have ht := Nat.le_trans (rbInt_t s3) ht
        generalize rbInt s3 = y at hS ht hX
        obtain ⟨i1, s4⟩ := y
        simp only at hS ht hX ⊢
        repeat (first | refine SemW.run tblOk ?_ | refine jA (by omega) ?_ | refine jB (by omega) ?_ | refine jC (by omega) ?_ | refine jD (by omega) ?_ | refine jE rfl ?_ | refine jF (by omega) ?_ | (refine jG ?_; first | with_reducible (first | refine jH ?_ | refine jI ?_ | refine jJ ?_ | refine jK ?_ | refine jL ?_) | refine jM (by omega) ?_ | refine jN (by omega) ?_ | with_reducible refine jM rfl ?_ | refine jM (by assumption) ?_ | refine jN (by assumption) ?_ | refine jM (by decide) ?_ | refine jN (by decide) ?_) | refine jF (ptr_ok tblOk rfl rfl) ?_ | refine jO (fun _ => by kernel_rfl) ?_ | refine jF (by decide) ?_ | refine hS.ld rfl ?_ | refine hS.ldn rfl ?_ | (refine hS.st rfl rfl ?_; intro _ hS))
        exact ⟨⟨{ hdC k q with fl := i0, eq := i1 }, s4, none, 0⟩, ⟨rfl, rfl, rfl, rfl, trivial⟩, ⟨hX, ht⟩, [], Vec.nil, hS⟩
      rw [if_neg h8] at hX
      by_cases hf : (k : Int) = 9 ∨ (k : Int) = 10 ∨ (k : Int) = 13 ∨ (k : Int) = 14
      · rw [if_pos hf] at hX
        simp only [lField, tk, wInts, List.getD_cons_zero, List.getD_cons_succ] at hX
        rcases hf with hf | hf | hf | hf
        · repeat (first | refine SemW.run tblOk ?_ | refine jA (by omega) ?_ | refine jB (by omega) ?_ | refine jC (by omega) ?_ | refine jD (by omega) ?_ | refine jE rfl ?_ | refine jF (by omega) ?_ | (refine jG ?_; first | with_reducible (first | refine jH ?_ | refine jI ?_ | refine jJ ?_ | refine jK ?_ | refine jL ?_) | refine jM (by omega) ?_ | refine jN (by omega) ?_ | with_reducible refine jM rfl ?_ | refine jM (by assumption) ?_ | refine jN (by assumption) ?_ | refine jM (by decide) ?_ | refine jN (by decide) ?_) | refine jF (ptr_ok tblOk rfl rfl) ?_ | refine jO (fun _ => by kernel_rfl) ?_ | refine jF (by decide) ?_ | refine hS.ld rfl ?_ | refine hS.ldn rfl ?_ | (refine hS.st rfl rfl ?_; intro _ hS))
          refine Cl.mono (in_int (s := s2) (hS.part (L := inH xb rb (s2))) (by omega)) ?_
          rintro _ w8 ⟨rfl, hS'⟩
          have hS := hS.call (L := inH xb rb (s2)) hS'
          have ht := Nat.le_trans (rbInt_t s2) ht
          generalize rbInt s2 = y at hS ht hX
          obtain ⟨i0, s3⟩ := y
          simp only at hS ht hX ⊢
          repeat (first | refine SemW.run tblOk ?_ | refine jA (by omega) ?_ | refine jB (by omega) ?_ | refine jC (by omega) ?_ | refine jD (by omega) ?_ | refine jE rfl ?_ | refine jF (by omega) ?_ | (refine jG ?_; first | with_reducible (first | refine jH ?_ | refine jI ?_ | refine jJ ?_ | refine jK ?_ | refine jL ?_) | refine jM (by omega) ?_ | refine jN (by omega) ?_ | with_reducible refine jM rfl ?_ | refine jM (by assumption) ?_ | refine jN (by assumption) ?_ | refine jM (by decide) ?_ | refine jN (by decide) ?_) | refine jF (ptr_ok tblOk rfl rfl) ?_ | refine jO (fun _ => by kernel_rfl) ?_ | refine jF (by decide) ?_ | refine hS.ld rfl ?_ | refine hS.ldn rfl ?_ | (refine hS.st rfl rfl ?_; intro _ hS))
          exact ⟨⟨{ hdC k q with fl := i0 }, s3, none, 0⟩, ⟨rfl, rfl, rfl, rfl, trivial⟩, ⟨hX, ht⟩, [], Vec.nil, hS⟩
        · have n9 : ¬ (k : Int) = 9 := by omega
          repeat (first | refine SemW.run tblOk ?_ | refine jA (by omega) ?_ | refine jB (by omega) ?_ | refine jC (by omega) ?_ | refine jD (by omega) ?_ | refine jE rfl ?_ | refine jF (by omega) ?_ | (refine jG ?_; first | with_reducible (first | refine jH ?_ | refine jI ?_ | refine jJ ?_ | refine jK ?_ | refine jL ?_) | refine jM (by omega) ?_ | refine jN (by omega) ?_ | with_reducible refine jM rfl ?_ | refine jM (by assumption) ?_ | refine jN (by assumption) ?_ | refine jM (by decide) ?_ | refine jN (by decide) ?_) | refine jF (ptr_ok tblOk rfl rfl) ?_ | refine jO (fun _ => by kernel_rfl) ?_ | refine jF (by decide) ?_ | refine hS.ld rfl ?_ | refine hS.ldn rfl ?_ | (refine hS.st rfl rfl ?_; intro _ hS))
          refine Cl.mono (in_int (s := s2) (hS.part (L := inH xb rb (s2))) (by omega)) ?_
          rintro _ w8 ⟨rfl, hS'⟩
          have hS := hS.call (L := inH xb rb (s2)) hS'
          have ht := Nat.le_trans (rbInt_t s2) ht
          generalize rbInt s2 = y at hS ht hX
          obtain ⟨i0, s3⟩ := y
          simp only at hS ht hX ⊢
          repeat (first | refine SemW.run tblOk ?_ | refine jA (by omega) ?_ | refine jB (by omega) ?_ | refine jC (by omega) ?_ | refine jD (by omega) ?_ | refine jE rfl ?_ | refine jF (by omega) ?_ | (refine jG ?_; first | with_reducible (first | refine jH ?_ | refine jI ?_ | refine jJ ?_ | refine jK ?_ | refine jL ?_) | refine jM (by omega) ?_ | refine jN (by omega) ?_ | with_reducible refine jM rfl ?_ | refine jM (by assumption) ?_ | refine jN (by assumption) ?_ | refine jM (by decide) ?_ | refine jN (by decide) ?_) | refine jF (ptr_ok tblOk rfl rfl) ?_ | refine jO (fun _ => by kernel_rfl) ?_ | refine jF (by decide) ?_ | refine hS.ld rfl ?_ | refine hS.ldn rfl ?_ | (refine hS.st rfl rfl ?_; intro _ hS))
          exact ⟨⟨{ hdC k q with fl := i0 }, s3, none, 0⟩, ⟨rfl, rfl, rfl, rfl, trivial⟩, ⟨hX, ht⟩, [], Vec.nil, hS⟩
        · have n9 : ¬ (k : Int) = 9 := by omega
          have n10 : ¬ (k : Int) = 10 := by omega
          repeat (first | refine SemW.run tblOk ?_ | refine jA (by omega) ?_ | refine jB (by omega) ?_ | refine jC (by omega) ?_ | refine jD (by omega) ?_ | refine jE rfl ?_ | refine jF (by omega) ?_ | (refine jG ?_; first | with_reducible (first | refine jH ?_ | refine jI ?_ | refine jJ ?_ | refine jK ?_ | refine jL ?_) | refine jM (by omega) ?_ | refine jN (by omega) ?_ | with_reducible refine jM rfl ?_ | refine jM (by assumption) ?_ | refine jN (by assumption) ?_ | refine jM (by decide) ?_ | refine jN (by decide) ?_) | refine jF (ptr_ok tblOk rfl rfl) ?_ | refine jO (fun _ => by kernel_rfl) ?_ | refine jF (by decide) ?_ | refine hS.ld rfl ?_ | refine hS.ldn rfl ?_ | (refine hS.st rfl rfl ?_; intro _ hS))
          refine Cl.mono (in_int (s := s2) (hS.part (L := inH xb rb (s2))) (by omega)) ?_
          rintro _ w8 ⟨rfl, hS'⟩
          have hS := hS.call (L := inH xb rb (s2)) hS'
          have ht := Nat.le_trans (rbInt_t s2) ht
          generalize rbInt s2 = y at hS ht hX
          obtain ⟨i0, s3⟩ := y
          simp only at hS ht hX ⊢
          repeat (first | refine SemW.run tblOk ?_ | refine jA (by omega) ?_ | refine jB (by omega) ?_ | refine jC (by omega) ?_ | refine jD (by omega) ?_ | refine jE rfl ?_ | refine jF (by omega) ?_ | (refine jG ?_; first | with_reducible (first | refine jH ?_ | refine jI ?_ | refine jJ ?_ | refine jK ?_ | refine jL ?_) | refine jM (by omega) ?_ | refine jN (by omega) ?_ | with_reducible refine jM rfl ?_ | refine jM (by assumption) ?_ | refine jN (by assumption) ?_ | refine jM (by decide) ?_ | refine jN (by decide) ?_) | refine jF (ptr_ok tblOk rfl rfl) ?_ | refine jO (fun _ => by kernel_rfl) ?_ | refine jF (by decide) ?_ | refine hS.ld rfl ?_ | refine hS.ldn rfl ?_ | (refine hS.st rfl rfl ?_; intro _ hS))
          exact ⟨⟨{ hdC k q with fl := i0 }, s3, none, 0⟩, ⟨rfl, rfl, rfl, rfl, trivial⟩, ⟨hX, ht⟩, [], Vec.nil, hS⟩
        · have n9 : ¬ (k : Int) = 9 := by omega
          have n10 : ¬ (k : Int) = 10 := by omega
          have n13 : ¬ (k : Int) = 13 := by omega
          repeat (first | refine SemW.run tblOk ?_ | refine jA (by omega) ?_ | refine jB (by omega) ?_ | refine jC (by omega) ?_ | refine jD (by omega) ?_ | refine jE rfl ?_ | refine jF (by omega) ?_ | (refine jG ?_; first | with_reducible (first | refine jH ?_ | refine jI ?_ | refine jJ ?_ | refine jK ?_ | refine jL ?_) | refine jM (by omega) ?_ | refine jN (by omega) ?_ | with_reducible refine jM rfl ?_ | refine jM (by assumption) ?_ | refine jN (by assumption) ?_ | refine jM (by decide) ?_ | refine jN (by decide) ?_) | refine jF (ptr_ok tblOk rfl rfl) ?_ | refine jO (fun _ => by kernel_rfl) ?_ | refine jF (by decide) ?_ | refine hS.ld rfl ?_ | refine hS.ldn rfl ?_ | (refine hS.st rfl rfl ?_; intro _ hS))
          refine Cl.mono (in_int (s := s2) (hS.part (L := inH xb rb (s2))) (by omega)) ?_
          rintro _ w8 ⟨rfl, hS'⟩
          have hS := hS.call (L := inH xb rb (s2)) hS'
          have ht := Nat.le_trans (rbInt_t s2) ht
          generalize rbInt s2 = y at hS ht hX
          obtain ⟨i0, s3⟩ := y
          simp only at hS ht hX ⊢
          repeat (first | refine SemW.run tblOk ?_ | refine jA (by omega) ?_ | refine jB (by omega) ?_ | refine jC (by omega) ?_ | refine jD (by omega) ?_ | refine jE rfl ?_ | refine jF (by omega) ?_ | (refine jG ?_; first | with_reducible (first | refine jH ?_ | refine jI ?_ | refine jJ ?_ | refine jK ?_ | refine jL ?_) | refine jM (by omega) ?_ | refine jN (by omega) ?_ | with_reducible refine jM rfl ?_ | refine jM (by assumption) ?_ | refine jN (by assumption) ?_ | refine jM (by decide) ?_ | refine jN (by decide) ?_) | refine jF (ptr_ok tblOk rfl rfl) ?_ | refine jO (fun _ => by kernel_rfl) ?_ | refine jF (by decide) ?_ | refine hS.ld rfl ?_ | refine hS.ldn rfl ?_ | (refine hS.st rfl rfl ?_; intro _ hS))
          exact ⟨⟨{ hdC k q with fl := i0 }, s3, none, 0⟩, ⟨rfl, rfl, rfl, rfl, trivial⟩, ⟨hX, ht⟩, [], Vec.nil, hS⟩
      rw [if_neg hf] at hX
      have hf9 : ¬ (k : Int) = 9 := fun h => hf (.inl h)
      have hf10 : ¬ (k : Int) = 10 := fun h => hf (.inr (.inl h))
      have hf13 : ¬ (k : Int) = 13 := fun h => hf (.inr (.inr (.inl h)))
      have hf14 : ¬ (k : Int) = 14 := fun h => hf (.inr (.inr (.inr h)))
      by_cases h12 : (k : Int) = 12
      · rw [if_pos h12] at hX
        simp only [lField, tk, wInts, List.getD_cons_zero, List.getD_cons_succ] at hX
        simp only [wText] at hX
        repeat (first | refine SemW.run tblOk ?_ | refine jA (by omega) ?_ | refine jB (by omega) ?_ | refine jC (by omega) ?_ | refine jD (by omega) ?_ | refine jE rfl ?_ | refine jF (by omega) ?_ | (refine jG ?_; first | with_reducible (first | refine jH ?_ | refine jI ?_ | refine jJ ?_ | refine jK ?_ | refine jL ?_) | refine jM (by omega) ?_ | refine jN (by omega) ?_ | with_reducible refine jM rfl ?_ | refine jM (by assumption) ?_ | refine jN (by assumption) ?_ | refine jM (by decide) ?_ | refine jN (by decide) ?_) | refine jF (ptr_ok tblOk rfl rfl) ?_ | refine jO (fun _ => by kernel_rfl) ?_ | refine jF (by decide) ?_ | refine hS.ld rfl ?_ | refine hS.ldn rfl ?_ | (refine hS.st rfl rfl ?_; intro _ hS))
        refine Cl.mono (RTextE_spec (t := s2.t) (hS.part (L := [(rb, rdC' s2.t)])) (by omega)) ?_
        rintro _ w9 ⟨rfl, hS'⟩
        have hS := hS.call (L := [(rb, rdC' s2.t)]) hS'
        have htx := textO_len s2.t
        have hte := textO_err s2.t
        generalize textO s2.t = y at hS hX htx hte ⊢
        obtain ⟨x, e2, t3⟩ := y
        simp only at hS hX htx hte ⊢
        repeat (first | refine SemW.run tblOk ?_ | refine jA (by omega) ?_ | refine jB (by omega) ?_ | refine jC (by omega) ?_ | refine jD (by omega) ?_ | refine jE rfl ?_ | refine jF (by omega) ?_ | (refine jG ?_; first | with_reducible (first | refine jH ?_ | refine jI ?_ | refine jJ ?_ | refine jK ?_ | refine jL ?_) | refine jM (by omega) ?_ | refine jN (by omega) ?_ | with_reducible refine jM rfl ?_ | refine jM (by assumption) ?_ | refine jN (by assumption) ?_ | refine jM (by decide) ?_ | refine jN (by decide) ?_) | refine jF (ptr_ok tblOk rfl rfl) ?_ | refine jO (fun _ => by kernel_rfl) ?_ | refine jF (by decide) ?_ | refine hS.ld rfl ?_ | refine hS.ldn rfl ?_ | (refine hS.st rfl rfl ?_; intro _ hS))
        rw [eN_max' s2.bad e2 hte] at hS
        repeat (first | refine SemW.run tblOk ?_ | refine jA (by omega) ?_ | refine jB (by omega) ?_ | refine jC (by omega) ?_ | refine jD (by omega) ?_ | refine jE rfl ?_ | refine jF (by omega) ?_ | (refine jG ?_; first | with_reducible (first | refine jH ?_ | refine jI ?_ | refine jJ ?_ | refine jK ?_ | refine jL ?_) | refine jM (by omega) ?_ | refine jN (by omega) ?_ | with_reducible refine jM rfl ?_ | refine jM (by assumption) ?_ | refine jN (by assumption) ?_ | refine jM (by decide) ?_ | refine jN (by decide) ?_) | refine jF (ptr_ok tblOk rfl rfl) ?_ | refine jO (fun _ => by kernel_rfl) ?_ | refine jF (by decide) ?_ | refine hS.ld rfl ?_ | refine hS.ldn rfl ?_ | (refine hS.st rfl rfl ?_; intro _ hS))
        exact ⟨⟨{ hdC k q with text := x }, ⟨t3, s2.bad || decide (e2 ≠ 0)⟩, none, 0⟩, ⟨rfl, rfl, rfl, rfl, trivial⟩, ⟨hX, by simp only; omega⟩, [], Vec.nil, hS⟩
      · rw [if_neg h12] at hX
        simp only [lField, tk, wInts, List.getD_cons_zero, List.getD_cons_succ] at hX
        repeat (first | refine SemW.run tblOk ?_ | refine jA (by omega) ?_ | refine jB (by omega) ?_ | refine jC (by omega) ?_ | refine jD (by omega) ?_ | refine jE rfl ?_ | refine jF (by omega) ?_ | (refine jG ?_; first | with_reducible (first | refine jH ?_ | refine jI ?_ | refine jJ ?_ | refine jK ?_ | refine jL ?_) | refine jM (by omega) ?_ | refine jN (by omega) ?_ | with_reducible refine jM rfl ?_ | refine jM (by assumption) ?_ | refine jN (by assumption) ?_ | refine jM (by decide) ?_ | refine jN (by decide) ?_) | refine jF (ptr_ok tblOk rfl rfl) ?_ | refine jO (fun _ => by kernel_rfl) ?_ | refine jF (by decide) ?_ | refine hS.ld rfl ?_ | refine hS.ldn rfl ?_ | (refine hS.st rfl rfl ?_; intro _ hS))
        refine Cl.mono (in_int (s := s2) (hS.part (L := inH xb rb (s2))) (by omega)) ?_
        rintro _ w8 ⟨rfl, hS'⟩
        have hS := hS.call (L := inH xb rb (s2)) hS'
        have ht := Nat.le_trans (rbInt_t s2) ht
        generalize rbInt s2 = y at hS ht hX
        obtain ⟨i0, s3⟩ := y
        simp only at hS ht hX ⊢
        repeat (first | refine SemW.run tblOk ?_ | refine jA (by omega) ?_ | refine jB (by omega) ?_ | refine jC (by omega) ?_ | refine jD (by omega) ?_ | refine jE rfl ?_ | refine jF (by omega) ?_ | (refine jG ?_; first | with_reducible (first | refine jH ?_ | refine jI ?_ | refine jJ ?_ | refine jK ?_ | refine jL ?_) | refine jM (by omega) ?_ | refine jN (by omega) ?_ | with_reducible refine jM rfl ?_ | refine jM (by assumption) ?_ | refine jN (by assumption) ?_ | refine jM (by decide) ?_ | refine jN (by decide) ?_) | refine jF (ptr_ok tblOk rfl rfl) ?_ | refine jO (fun _ => by kernel_rfl) ?_ | refine jF (by decide) ?_ | refine hS.ld rfl ?_ | refine hS.ldn rfl ?_ | (refine hS.st rfl rfl ?_; intro _ hS))
        exact ⟨⟨{ hdC k q with id := i0 }, s3, none, 0⟩, ⟨rfl, rfl, rfl, rfl, trivial⟩, ⟨hX, ht⟩, [], Vec.nil, hS⟩
    · clear hS
      rintro ⟨c, z, a, cap⟩ w10 ⟨⟨hz, ht⟩, L, hv, hS⟩
      simp only at hz ht hv hS ⊢
      have hlc : lCmd p = some (c, z) := by rw [hz]; exact hX0
      have hcok := lCmd_ok hlc
      have hfit : CmdFit 65536 c := lCmd_fit hlc hpl
      rw [← hz]
      clear hX0 hz
      repeat (first | refine SemW.run tblOk ?_ | refine jA (by omega) ?_ | refine jB (by omega) ?_ | refine jC (by omega) ?_ | refine jD (by omega) ?_ | refine jE rfl ?_ | refine jF (by omega) ?_ | (refine jG ?_; first | with_reducible (first | refine jH ?_ | refine jI ?_ | refine jJ ?_ | refine jK ?_ | refine jL ?_) | refine jM (by omega) ?_ | refine jN (by omega) ?_ | with_reducible refine jM rfl ?_ | refine jM (by assumption) ?_ | refine jN (by assumption) ?_ | refine jM (by decide) ?_ | refine jN (by decide) ?_) | refine jF (ptr_ok tblOk rfl rfl) ?_ | refine jO (fun _ => by kernel_rfl) ?_ | refine jF (by decide) ?_ | refine hS.ld rfl ?_ | refine hS.ldn rfl ?_ | (refine hS.st rfl rfl ?_; intro _ hS))
      refine Cl.mono (Command23_spec (c := c) ⟨rowsAt_vec (L := L) hS hv, hcok, by have := hfit.cnt; omega, by have := hfit.text; omega, fun r hr => by have := hfit.seats r hr; omega⟩) ?_
      rintro _ w11 ⟨rfl, hS'⟩
      have hS := hS.call0 hS'
      unfold checkC
      simp only
      have hframe : ∀ q : Bytes, q.length ≤ 65536 → (frameB q = t ↔ q = p) := fun q hq => by
        have hp := (openS_iff.1 ho).1
        constructor
        · intro h; rw [hp] at h; exact frameB_inj hq hpl h
        · rintro rfl; exact hp.symm
      have he0 : eN false = 0 := rfl
      obtain ⟨tz, bz⟩ := z
      cases bz with
      | true =>
        rw [if_neg (by rintro ⟨h, -⟩; cases h), cmdO_if]
        repeat (first | refine SemW.run tblOk ?_ | refine jA (by omega) ?_ | refine jB (by omega) ?_ | refine jC (by omega) ?_ | refine jD (by omega) ?_ | refine jE rfl ?_ | refine jF (by omega) ?_ | (refine jG ?_; first | with_reducible (first | refine jH ?_ | refine jI ?_ | refine jJ ?_ | refine jK ?_ | refine jL ?_) | refine jM (by omega) ?_ | refine jN (by omega) ?_ | with_reducible refine jM rfl ?_ | refine jM (by assumption) ?_ | refine jN (by assumption) ?_ | refine jM (by decide) ?_ | refine jN (by decide) ?_) | refine jF (ptr_ok tblOk rfl rfl) ?_ | refine jO (fun _ => by kernel_rfl) ?_ | refine jF (by decide) ?_ | refine hS.ld rfl ?_ | refine hS.ldn rfl ?_ | (refine hS.st rfl rfl ?_; intro _ hS))
        refine BrG.neg (by show ¬ (1 : Int) = 0; decide) ?_
        repeat (first | refine SemW.run tblOk ?_ | refine jA (by omega) ?_ | refine jB (by omega) ?_ | refine jC (by omega) ?_ | refine jD (by omega) ?_ | refine jE rfl ?_ | refine jF (by omega) ?_ | (refine jG ?_; first | with_reducible (first | refine jH ?_ | refine jI ?_ | refine jJ ?_ | refine jK ?_ | refine jL ?_) | refine jM (by omega) ?_ | refine jN (by omega) ?_ | with_reducible refine jM rfl ?_ | refine jM (by assumption) ?_ | refine jN (by assumption) ?_ | refine jM (by decide) ?_ | refine jN (by decide) ?_) | refine jF (ptr_ok tblOk rfl rfl) ?_ | refine jO (fun _ => by kernel_rfl) ?_ | refine jF (by decide) ?_ | refine hS.ld rfl ?_ | refine hS.ldn rfl ?_ | (refine hS.st rfl rfl ?_; intro _ hS))
        exact ⟨rfl, hS.nil⟩
      | false =>
        by_cases hR : RightC c
        rotate_left
        · rw [if_neg (fun h => hR h.2.1), cmdO_if, if_neg hR, if_neg hR]
          repeat (first | refine SemW.run tblOk ?_ | refine jA (by omega) ?_ | refine jB (by omega) ?_ | refine jC (by omega) ?_ | refine jD (by omega) ?_ | refine jE rfl ?_ | refine jF (by omega) ?_ | (refine jG ?_; first | with_reducible (first | refine jH ?_ | refine jI ?_ | refine jJ ?_ | refine jK ?_ | refine jL ?_) | refine jM (by omega) ?_ | refine jN (by omega) ?_ | with_reducible refine jM rfl ?_ | refine jM (by assumption) ?_ | refine jN (by assumption) ?_ | refine jM (by decide) ?_ | refine jN (by decide) ?_) | refine jF (ptr_ok tblOk rfl rfl) ?_ | refine jO (fun _ => by kernel_rfl) ?_ | refine jF (by decide) ?_ | refine hS.ld rfl ?_ | refine hS.ldn rfl ?_ | (refine hS.st rfl rfl ?_; intro _ hS))
          exact ⟨rfl, hS.nil⟩
        have hl := cmdB_len hcok hR.2.2.1 hR.2.1
        have hfr := hframe _ hl
        rw [cmdO_if, if_pos hR, if_pos hR]
        by_cases hq : cmdB c = p
        · have hft := hfr.2 hq
          rw [if_pos ⟨rfl, hR, hq⟩]
          repeat (first | refine SemW.run tblOk ?_ | refine jA (by omega) ?_ | refine jB (by omega) ?_ | refine jC (by omega) ?_ | refine jD (by omega) ?_ | refine jE rfl ?_ | refine jF (by omega) ?_ | (refine jG ?_; first | with_reducible (first | refine jH ?_ | refine jI ?_ | refine jJ ?_ | refine jK ?_ | refine jL ?_) | refine jM (by omega) ?_ | refine jN (by omega) ?_ | with_reducible refine jM rfl ?_ | refine jM (by assumption) ?_ | refine jN (by assumption) ?_ | refine jM (by decide) ?_ | refine jN (by decide) ?_) | refine jF (ptr_ok tblOk rfl rfl) ?_ | refine jO (fun _ => by kernel_rfl) ?_ | refine jF (by decide) ?_ | refine hS.ld rfl ?_ | refine hS.ldn rfl ?_ | (refine hS.st rfl rfl ?_; intro _ hS))
          exact ⟨a, cap, L, rfl, hv, hS.sub ((List.sublist_append_left L _).trans ((List.sublist_cons_self _ _).trans ((List.sublist_cons_self _ _).trans (List.sublist_cons_self _ _))))⟩
        · have hft : ¬ frameB (cmdB c) = t := fun h => hq (hfr.1 h)
          rw [if_neg (fun h => hq h.2.2)]
          repeat (first | refine SemW.run tblOk ?_ | refine jA (by omega) ?_ | refine jB (by omega) ?_ | refine jC (by omega) ?_ | refine jD (by omega) ?_ | refine jE rfl ?_ | refine jF (by omega) ?_ | (refine jG ?_; first | with_reducible (first | refine jH ?_ | refine jI ?_ | refine jJ ?_ | refine jK ?_ | refine jL ?_) | refine jM (by omega) ?_ | refine jN (by omega) ?_ | with_reducible refine jM rfl ?_ | refine jM (by assumption) ?_ | refine jN (by assumption) ?_ | refine jM (by decide) ?_ | refine jN (by decide) ?_) | refine jF (ptr_ok tblOk rfl rfl) ?_ | refine jO (fun _ => by kernel_rfl) ?_ | refine jF (by decide) ?_ | refine hS.ld rfl ?_ | refine hS.ldn rfl ?_ | (refine hS.st rfl rfl ?_; intro _ hS))
          exact ⟨rfl, hS.nil⟩
end Go.Proofs.YthpmmfapolcaiaaDoor

/- Several cells of an own block are written. -/
namespace Go.Eng
open Go
theorem splice_len (l : List Value) (off : Nat) (vs : List Value) (h : off + vs.length ≤ l.length) : (splice l off vs).length = l.length := by
  unfold splice
  simp only [List.length_append, List.length_take, List.length_drop]; omega
/-- A store of several cells at a place that is no literal. -/
theorem St.stN {w0 w : World} {T : List Nat} {H : Heap} {b off : Nat} {vs l : List Value} {t : TypeId} {F : Obj → Heap} (hS : St w0 T H w) [Slot H b (.cells ⟨l⟩ t (0, 0)) F] (hv : vs.all Value.oneCell' = true) (hn : off + vs.length ≤ l.length)
    {K : World → Prop} (hk : ∀ w', St w0 T (F (.cells ⟨splice l off vs⟩ t (0, 0))) w' → K w') : StG w b off vs K :=
  ⟨⟨l, t, (0, 0), hS.mem, .inl (Nat.zero_le _), hn, fun v h => List.all_eq_true.1 hv v h, hk _ (hS.setRow (l := l))⟩⟩
end Go.Eng

/- Package wire: a reply's fields, written. -/
namespace Go.Proofs.YthpmmfapolcaiaaDoor
open Go Go.Eng Go.Proofs
abbrev replyC (r : ReplyM) (a : Option Addr) (cap : Nat) : List Value := [.int .i64 r.code, .slice a r.ids.length cap, .int .i64 r.n0, .int .i64 r.n1, .int .i64 r.n2, .int .i64 r.n3, .bool r.over, .int .i64 r.pax.id, .int .i64 r.pax.flight, .int .i64 r.pax.cab, .bool r.pax.fit, .bool r.pax.infant, .bool r.pax.vol, .bool r.pax.stb, .int .i64 r.pax.cls, .int .i64 r.pax.status, .int .i64 r.pax.tick, .int .i64 r.pax.pass, .int .i64 r.pax.num, .int .u8 r.pax.c, Str r.text]
abbrev repO (r : ReplyM) (a : Option Addr) (cap : Nat) : Obj := .cells ⟨replyC r a cap⟩ T_api_Reply (0, 0)
set_option maxRecDepth 4000 in
set_option maxHeartbeats 8000000 in
theorem reply_wr {w : World} {pb : Nat} {L : Heap} (hW : PackW pb [] L) {ab sb : Nat} {r : ReplyM} {a : Option Addr} {cap : Nat} (hh : Holds ((ab, repO r a cap) :: L) w) (hsb : sb ∉ ab :: keys L ∧ w.cell? ⟨sb, 0, none⟩ = some (Str (seatB r.pax.num r.pax.c))) (hids : Arr w (ab :: keys L) a (r.ids.map intV)) (hok : r.ok) (hni : r.ids.length ≤ 16777216) (hnt : r.text.length ≤ 16777216) :
    Cl Tryd.prog f_wire_reply [.iface T_wire_writer (wrV pb), ptr ab, ptr sb] w fun _ w' => ∃ L', PackW pb (replyB r) L' ∧ St w (ab :: keys L) ((ab, repO r a cap) :: L') w' := by
  have hS : St w (ab :: keys L) ((ab, repO r a cap) :: L) w := St.enter hh
  have hp := hok.pax
  have hsl := seatB_len r.pax.num r.pax.c
  have hi1 := ints_len [r.code] (all1 hok.code).2
  have hi2 := ints_len r.ids hok.ids
  have hall := all4 hok.n0 hok.n1 hok.n2 hok.n3
  have hi3 := ints_len [r.n0, r.n1, r.n2, r.n3] hall.2
  have hpall := all7 hp.id hp.flight hp.cab hp.cls hp.status hp.tick hp.pass
  have hi4 := ints_len [r.pax.id, r.pax.flight, r.pax.cab, r.pax.cls, r.pax.status, r.pax.tick, r.pax.pass] hpall.2
  have hn1 := numB_len10 r.ids.length (by omega)
  have hn2 := numB_len10 (marksN [r.over]) (by have h3' : marksN [r.over] < 2 := marksN_lt [r.over]; omega)
  have hn3 := numB_len10 (marksN [r.pax.fit, r.pax.infant, r.pax.vol, r.pax.stb]) (by have := marks4_lt r.pax.fit r.pax.infant r.pax.vol r.pax.stb; omega)
  have hn4 := numB_len10 (seatB r.pax.num r.pax.c).length (by omega)
  simp only [List.length_cons, List.length_nil] at hi1 hi3 hi4
  obtain ⟨T0, hT⟩ : ∃ T0, T0 = ab :: keys L := ⟨_, rfl⟩
  rw [← hT] at hS hsb hids ⊢
  refine en_wire_reply rfl ?_
  repeat (first | refine SemW.run tblOk ?_ | refine jA (by omega) ?_ | refine jB (by omega) ?_ | refine jC (by omega) ?_ | refine jD (by omega) ?_ | refine jE rfl ?_ | refine jF (by omega) ?_ | (refine jG ?_; first | with_reducible (first | refine jH ?_ | refine jI ?_ | refine jJ ?_ | refine jK ?_ | refine jL ?_) | refine jM (by omega) ?_ | refine jN (by omega) ?_ | with_reducible refine jM rfl ?_ | refine jM (by assumption) ?_ | refine jN (by assumption) ?_ | refine jM (by decide) ?_ | refine jN (by decide) ?_) | refine jF (ptr_ok tblOk rfl rfl) ?_ | refine jO (fun _ => by kernel_rfl) ?_ | refine jF (by decide) ?_ | refine hS.ld rfl ?_ | refine hS.ldn rfl ?_ | (refine hS.st rfl rfl ?_; intro _ hS))
  refine hS.al ?_
  intro cv w1 _ hS
  repeat (first | refine SemW.run tblOk ?_ | refine jA (by omega) ?_ | refine jB (by omega) ?_ | refine jC (by omega) ?_ | refine jD (by omega) ?_ | refine jE rfl ?_ | refine jF (by omega) ?_ | (refine jG ?_; first | with_reducible (first | refine jH ?_ | refine jI ?_ | refine jJ ?_ | refine jK ?_ | refine jL ?_) | refine jM (by omega) ?_ | refine jN (by omega) ?_ | with_reducible refine jM rfl ?_ | refine jM (by assumption) ?_ | refine jN (by assumption) ?_ | refine jM (by decide) ?_ | refine jN (by decide) ?_) | refine jF (ptr_ok tblOk rfl rfl) ?_ | refine jO (fun _ => by kernel_rfl) ?_ | refine jF (by decide) ?_ | refine hS.ld rfl ?_ | refine hS.ldn rfl ?_ | (refine hS.st rfl rfl ?_; intro _ hS))
  refine hS.al ?_
  intro q w2 _ hS
  repeat (first | refine SemW.run tblOk ?_ | refine jA (by omega) ?_ | refine jB (by omega) ?_ | refine jC (by omega) ?_ | refine jD (by omega) ?_ | refine jE rfl ?_ | refine jF (by omega) ?_ | (refine jG ?_; first | with_reducible (first | refine jH ?_ | refine jI ?_ | refine jJ ?_ | refine jK ?_ | refine jL ?_) | refine jM (by omega) ?_ | refine jN (by omega) ?_ | with_reducible refine jM rfl ?_ | refine jM (by assumption) ?_ | refine jN (by assumption) ?_ | refine jM (by decide) ?_ | refine jN (by decide) ?_) | refine jF (ptr_ok tblOk rfl rfl) ?_ | refine jO (fun _ => by kernel_rfl) ?_ | refine jF (by decide) ?_ | refine hS.ld rfl ?_ | refine hS.ldn rfl ?_ | (refine hS.st rfl rfl ?_; intro _ hS))
  have hS : St w T0 ((q, .cells ⟨[ptr cv]⟩ T_Ptr_int (0, 0)) :: (cv, .cells ⟨[.int .i64 r.code]⟩ T_int (0, 0)) :: (ab, repO r a cap) :: L) w2 := hS
  refine InvG.mk ⟨f_wire_writer_int, wrV pb, by kernel_rfl, ?_⟩
  refine Cl.mono (wint_spec hW (hS.part (L := L)) (ps := [(cv, 0)]) (zs := [r.code]) (hS.arr (b := q) (nodup_chunk hS)) rfl (ptrsAt_cons ⟨nodup_chunk (L := L) (hS.sub (List.sublist_cons_self _ _)), hS.cell (b := cv) rfl⟩ ptrsAt_nil) (all1 hok.code).2 (by simp)) ?_
  rintro _ w4 ⟨L1, hW, hS'⟩
  have hS := (hS.call (L := L) hS').sub (List.sublist_cons_self _ _)
  rw [List.nil_append] at hW
  repeat (first | refine SemW.run tblOk ?_ | refine jA (by omega) ?_ | refine jB (by omega) ?_ | refine jC (by omega) ?_ | refine jD (by omega) ?_ | refine jE rfl ?_ | refine jF (by omega) ?_ | (refine jG ?_; first | with_reducible (first | refine jH ?_ | refine jI ?_ | refine jJ ?_ | refine jK ?_ | refine jL ?_) | refine jM (by omega) ?_ | refine jN (by omega) ?_ | with_reducible refine jM rfl ?_ | refine jM (by assumption) ?_ | refine jN (by assumption) ?_ | refine jM (by decide) ?_ | refine jN (by decide) ?_) | refine jF (ptr_ok tblOk rfl rfl) ?_ | refine jO (fun _ => by kernel_rfl) ?_ | refine jF (by decide) ?_ | refine hS.ld rfl ?_ | refine hS.ldn rfl ?_ | (refine hS.st rfl rfl ?_; intro _ hS))
  have hS := hS.sub (List.sublist_cons_self _ _)
  have hS : St w T0 ((ab, repO r a cap) :: L1) _ := hS
  refine SemW.draw tblOk mixed (fun w' => St w T0 ((ab, repO r a cap) :: L1) w') [9, 10] [0, 1, 2, 3, 4, 5, 6, 7, 8, 9, 10] (by kernel_rfl) hS.drew ?_
  have hS := hS.drew
  repeat (first | refine SemW.run tblOk ?_ | refine jA (by omega) ?_ | refine jB (by omega) ?_ | refine jC (by omega) ?_ | refine jD (by omega) ?_ | refine jE rfl ?_ | refine jF (by omega) ?_ | (refine jG ?_; first | with_reducible (first | refine jH ?_ | refine jI ?_ | refine jJ ?_ | refine jK ?_ | refine jL ?_) | refine jM (by omega) ?_ | refine jN (by omega) ?_ | with_reducible refine jM rfl ?_ | refine jM (by assumption) ?_ | refine jN (by assumption) ?_ | refine jM (by decide) ?_ | refine jN (by decide) ?_) | refine jF (ptr_ok tblOk rfl rfl) ?_ | refine jO (fun _ => by kernel_rfl) ?_ | refine jF (by decide) ?_ | refine hS.ldC rfl ?_ | refine hS.ldnC rfl ?_)
  refine InvG.mk ⟨f_wire_writer_count, wrV pb, by kernel_rfl, ?_⟩
  refine Cl.mono (wcount_spec hW (hS.part (L := L1)) (n := r.ids.length) (by omega) (by omega)) ?_
  rintro _ w5 ⟨rfl, L2, hW, hS'⟩
  have hS := hS.call (L := L1) hS'
  repeat (first | refine SemW.run tblOk ?_ | refine jA (by omega) ?_ | refine jB (by omega) ?_ | refine jC (by omega) ?_ | refine jD (by omega) ?_ | refine jE rfl ?_ | refine jF (by omega) ?_ | (refine jG ?_; first | with_reducible (first | refine jH ?_ | refine jI ?_ | refine jJ ?_ | refine jK ?_ | refine jL ?_) | refine jM (by omega) ?_ | refine jN (by omega) ?_ | with_reducible refine jM rfl ?_ | refine jM (by assumption) ?_ | refine jN (by assumption) ?_ | refine jM (by decide) ?_ | refine jN (by decide) ?_) | refine jF (ptr_ok tblOk rfl rfl) ?_ | refine jO (fun _ => by kernel_rfl) ?_ | refine jF (by decide) ?_)
  refine StopW.join (fun _ : Unit => [(0, .iface T_wire_writer (wrV pb)), (1, ptr ab), (2, ptr sb)])
    (fun _ w' => ∃ L', PackW pb (intsB [r.code] ++ numB r.ids.length ++ intsB r.ids) L' ∧ St w T0 ((ab, repO r a cap) :: L') w') ?_ ?_
  · refine SemW.loop (fun k : Nat => [(0, .iface T_wire_writer (wrV pb)), (1, ptr ab), (2, ptr sb), (32, .int .i64 r.ids.length), (33, .int .i64 k)])
      (fun k w' => k ≤ r.ids.length ∧ ∃ L', PackW pb (intsB [r.code] ++ numB r.ids.length ++ intsB (r.ids.take k)) L' ∧ St w T0 ((ab, repO r a cap) :: L') w') (fun k => r.ids.length - k) 0
      ⟨rfl, rfl, rfl, rfl, rfl, trivial⟩ ⟨Nat.zero_le _, L2, by simpa [intsB] using hW, hS⟩ ?_
    clear hS hW hS'
    rintro k w6 ⟨hk, L3, hW, hS⟩
    have hil := ints_len (r.ids.take k) (fun z hz => hok.ids z (List.mem_of_mem_take hz))
    rw [List.length_take] at hil
    by_cases hkl : k < r.ids.length
    · obtain ⟨g, off, rfl, hgT, hgc⟩ := hids.get (j := k) (by simp; omega)
      simp only [List.getElem_map] at hgc
      have hz := hok.ids r.ids[k] (List.getElem_mem hkl)
      have hsucc := ints_succ r.ids k hkl
      generalize r.ids[k] = z at hgc hz hsucc
      repeat (first | refine SemW.run tblOk ?_ | refine jA (by omega) ?_ | refine jB (by omega) ?_ | refine jC (by omega) ?_ | refine jD (by omega) ?_ | refine jE rfl ?_ | refine jF (by omega) ?_ | (refine jG ?_; first | with_reducible (first | refine jH ?_ | refine jI ?_ | refine jJ ?_ | refine jK ?_ | refine jL ?_) | refine jM (by omega) ?_ | refine jN (by omega) ?_ | with_reducible refine jM rfl ?_ | refine jM (by assumption) ?_ | refine jN (by assumption) ?_ | refine jM (by decide) ?_ | refine jN (by decide) ?_) | refine jF (ptr_ok tblOk rfl rfl) ?_ | refine jO (fun _ => by kernel_rfl) ?_ | refine jF (by decide) ?_ | refine hS.ld rfl ?_ | refine hS.ldn rfl ?_ | (refine hS.st rfl rfl ?_; intro _ hS))
      have hS : St w T0 ((ab, repO r (some ⟨g, off, none⟩) cap) :: L3) w6 := hS
      refine SemW.draw tblOk mixed (fun w' => St w T0 ((ab, repO r (some ⟨g, off, none⟩) cap) :: L3) w') [11] [0, 1, 2, 3, 4, 5, 6, 8, 9, 10, 7, 11] (by kernel_rfl) hS.drew ?_
      have hS := hS.drew
      repeat (first | refine SemW.run tblOk ?_ | refine jA (by omega) ?_ | refine jB (by omega) ?_ | refine jC (by omega) ?_ | refine jD (by omega) ?_ | refine jE rfl ?_ | refine jF (by omega) ?_ | (refine jG ?_; first | with_reducible (first | refine jH ?_ | refine jI ?_ | refine jJ ?_ | refine jK ?_ | refine jL ?_) | refine jM (by omega) ?_ | refine jN (by omega) ?_ | with_reducible refine jM rfl ?_ | refine jM (by assumption) ?_ | refine jN (by assumption) ?_ | refine jM (by decide) ?_ | refine jN (by decide) ?_) | refine jF (ptr_ok tblOk rfl rfl) ?_ | refine jO (fun _ => by kernel_rfl) ?_ | refine jF (by decide) ?_ | refine hS.ldC rfl ?_ | refine hS.ldnC rfl ?_)
      refine hS.al ?_
      intro q w3 _ hS
      refine Chk.mk (hS.sub (List.sublist_cons_self _ _)) ?_
      repeat (first | refine SemW.run tblOk ?_ | refine jA (by omega) ?_ | refine jB (by omega) ?_ | refine jC (by omega) ?_ | refine jD (by omega) ?_ | refine jE rfl ?_ | refine jF (by omega) ?_ | (refine jG ?_; first | with_reducible (first | refine jH ?_ | refine jI ?_ | refine jJ ?_ | refine jK ?_ | refine jL ?_) | refine jM (by omega) ?_ | refine jN (by omega) ?_ | with_reducible refine jM rfl ?_ | refine jM (by assumption) ?_ | refine jN (by assumption) ?_ | refine jM (by decide) ?_ | refine jN (by decide) ?_) | refine jF (ptr_ok tblOk rfl rfl) ?_ | refine jO (fun _ => by kernel_rfl) ?_ | refine jF (by decide) ?_ | refine hS.ldC rfl ?_ | refine hS.ldnC rfl ?_)
      have hgc : w.cell? ⟨g, off + k * 1, none⟩ = some (intV z) := by rw [Nat.mul_one]; exact hgc
      have hcell := hS.cellNew (L := L3) hgT hgc
      refine InvG.mk ⟨f_wire_writer_int, wrV pb, by kernel_rfl, ?_⟩
      refine Cl.mono (wint_spec hW (hS.part (L := L3)) (ps := [(g, off + k * 1)]) (zs := [z]) (hS.arr (b := q) (nodup_chunk hS)) rfl (ptrsAt_cons hcell ptrsAt_nil) (all1 hz).2 (by simp only [List.length_append, List.length_cons, List.length_nil]; omega)) ?_
      rintro _ w4 ⟨L4, hW, hS'⟩
      have hS := (hS.call (L := L3) hS').sub (List.sublist_cons_self _ _)
      repeat (first | refine SemW.run tblOk ?_ | refine jA (by omega) ?_ | refine jB (by omega) ?_ | refine jC (by omega) ?_ | refine jD (by omega) ?_ | refine jE rfl ?_ | refine jF (by omega) ?_ | (refine jG ?_; first | with_reducible (first | refine jH ?_ | refine jI ?_ | refine jJ ?_ | refine jK ?_ | refine jL ?_) | refine jM (by omega) ?_ | refine jN (by omega) ?_ | with_reducible refine jM rfl ?_ | refine jM (by assumption) ?_ | refine jN (by assumption) ?_ | refine jM (by decide) ?_ | refine jN (by decide) ?_) | refine jF (ptr_ok tblOk rfl rfl) ?_ | refine jO (fun _ => by kernel_rfl) ?_ | refine jF (by decide) ?_)
      exact ⟨k + 1, ⟨rfl, rfl, rfl, rfl, rfl, trivial⟩, ⟨by omega, L4, by rw [hsucc]; simpa [intsB] using hW, hS⟩, by omega⟩
    · have hke : k = r.ids.length := by omega
      subst hke
      rw [List.take_length] at hW
      repeat (first | refine SemW.run tblOk ?_ | refine jA (by omega) ?_ | refine jB (by omega) ?_ | refine jC (by omega) ?_ | refine jD (by omega) ?_ | refine jE rfl ?_ | refine jF (by omega) ?_ | (refine jG ?_; first | with_reducible (first | refine jH ?_ | refine jI ?_ | refine jJ ?_ | refine jK ?_ | refine jL ?_) | refine jM (by omega) ?_ | refine jN (by omega) ?_ | with_reducible refine jM rfl ?_ | refine jM (by assumption) ?_ | refine jN (by assumption) ?_ | refine jM (by decide) ?_ | refine jN (by decide) ?_) | refine jF (ptr_ok tblOk rfl rfl) ?_ | refine jO (fun _ => by kernel_rfl) ?_ | refine jF (by decide) ?_)
      exact ⟨rfl, (), ⟨rfl, rfl, rfl, trivial⟩, L3, hW, hS⟩
  clear hS hW hS'
  rintro - w7 ⟨L2, hW, hS⟩
  repeat (first | refine SemW.run tblOk ?_ | refine jA (by omega) ?_ | refine jB (by omega) ?_ | refine jC (by omega) ?_ | refine jD (by omega) ?_ | refine jE rfl ?_ | refine jF (by omega) ?_ | (refine jG ?_; first | with_reducible (first | refine jH ?_ | refine jI ?_ | refine jJ ?_ | refine jK ?_ | refine jL ?_) | refine jM (by omega) ?_ | refine jN (by omega) ?_ | with_reducible refine jM rfl ?_ | refine jM (by assumption) ?_ | refine jN (by assumption) ?_ | refine jM (by decide) ?_ | refine jN (by decide) ?_) | refine jF (ptr_ok tblOk rfl rfl) ?_ | refine jO (fun _ => by kernel_rfl) ?_ | refine jF (by decide) ?_)
  refine StopW.join (fun _ : Unit => [(0, .iface T_wire_writer (wrV pb)), (1, ptr ab), (2, ptr sb)])
    (fun _ w' => ∃ L', PackW pb (intsB [r.code] ++ numB r.ids.length ++ intsB r.ids ++ intsB [r.n0, r.n1, r.n2, r.n3]) L' ∧ St w T0 ((ab, repO r a cap) :: L') w') ?_ ?_
  · refine SemW.loop (fun k : Nat => [(0, .iface T_wire_writer (wrV pb)), (1, ptr ab), (2, ptr sb), (65, .int .i64 k)])
      (fun k w' => k ≤ 4 ∧ ∃ L', PackW pb (intsB [r.code] ++ numB r.ids.length ++ intsB r.ids ++ intsB ([r.n0, r.n1, r.n2, r.n3].take k)) L' ∧ St w T0 ((ab, repO r a cap) :: L') w') (fun k => 4 - k) 0
      ⟨rfl, rfl, rfl, rfl, trivial⟩ ⟨Nat.zero_le _, L2, by simpa [intsB] using hW, hS⟩ ?_
    clear hS hW
    rintro k w6 ⟨hk, L3, hW, hS⟩
    have hil := ints_len ([r.n0, r.n1, r.n2, r.n3].take k) (fun z hz => hall.2 z (List.mem_of_mem_take hz))
    rw [List.length_take] at hil
    by_cases hk4 : k < 4
    · have hsucc := ints_succ [r.n0, r.n1, r.n2, r.n3] k hk4
      have hz := hall.2 [r.n0, r.n1, r.n2, r.n3][k] (List.getElem_mem hk4)
      have hx : (replyC r a cap)[2 + k * 1]? = some (intV [r.n0, r.n1, r.n2, r.n3][k]) := by
        match k, hk4 with
        | 0, _ => rfl
        | 1, _ => rfl
        | 2, _ => rfl
        | 3, _ => rfl
      generalize [r.n0, r.n1, r.n2, r.n3][k] = z at hsucc hz hx
      repeat (first | refine SemW.run tblOk ?_ | refine jA (by omega) ?_ | refine jB (by omega) ?_ | refine jC (by omega) ?_ | refine jD (by omega) ?_ | refine jE rfl ?_ | refine jF (by omega) ?_ | (refine jG ?_; first | with_reducible (first | refine jH ?_ | refine jI ?_ | refine jJ ?_ | refine jK ?_ | refine jL ?_) | refine jM (by omega) ?_ | refine jN (by omega) ?_ | with_reducible refine jM rfl ?_ | refine jM (by assumption) ?_ | refine jN (by assumption) ?_ | refine jM (by decide) ?_ | refine jN (by decide) ?_) | refine jF (ptr_ok tblOk rfl rfl) ?_ | refine jO (fun _ => by kernel_rfl) ?_ | refine jF (by decide) ?_)
      refine SemW.draw tblOk mixed (fun w' => St w T0 ((ab, repO r a cap) :: L3) w') [10] [0, 1, 2, 3, 4, 5, 7, 8, 9, 6, 10] (by kernel_rfl) hS.drew ?_
      have hS := hS.drew
      repeat (first | refine SemW.run tblOk ?_ | refine jA (by omega) ?_ | refine jB (by omega) ?_ | refine jC (by omega) ?_ | refine jD (by omega) ?_ | refine jE rfl ?_ | refine jF (by omega) ?_ | (refine jG ?_; first | with_reducible (first | refine jH ?_ | refine jI ?_ | refine jJ ?_ | refine jK ?_ | refine jL ?_) | refine jM (by omega) ?_ | refine jN (by omega) ?_ | with_reducible refine jM rfl ?_ | refine jM (by assumption) ?_ | refine jN (by assumption) ?_ | refine jM (by decide) ?_ | refine jN (by decide) ?_) | refine jF (ptr_ok tblOk rfl rfl) ?_ | refine jO (fun _ => by kernel_rfl) ?_ | refine jF (by decide) ?_ | refine hS.ldC rfl ?_ | refine hS.ldnC rfl ?_)
      refine hS.al ?_
      intro q w3 _ hS
      refine Chk.mk (hS.sub (List.sublist_cons_self _ _)) ?_
      repeat (first | refine SemW.run tblOk ?_ | refine jA (by omega) ?_ | refine jB (by omega) ?_ | refine jC (by omega) ?_ | refine jD (by omega) ?_ | refine jE rfl ?_ | refine jF (by omega) ?_ | (refine jG ?_; first | with_reducible (first | refine jH ?_ | refine jI ?_ | refine jJ ?_ | refine jK ?_ | refine jL ?_) | refine jM (by omega) ?_ | refine jN (by omega) ?_ | with_reducible refine jM rfl ?_ | refine jM (by assumption) ?_ | refine jN (by assumption) ?_ | refine jM (by decide) ?_ | refine jN (by decide) ?_) | refine jF (ptr_ok tblOk rfl rfl) ?_ | refine jO (fun _ => by kernel_rfl) ?_ | refine jF (by decide) ?_ | refine hS.ldC rfl ?_ | refine hS.ldnC rfl ?_)
      have hcell : ∀ j v, (replyC r a cap)[j]? = some v → ab ∉ keys L3 ∧ w3.cell? ⟨ab, j, none⟩ = some v := fun j v h => ⟨nodup_chunk (L := L3) (hS.sub (List.sublist_cons_self _ _)), hS.cell (b := ab) h⟩
      refine InvG.mk ⟨f_wire_writer_int, wrV pb, by kernel_rfl, ?_⟩
      refine Cl.mono (wint_spec hW (hS.part (L := L3)) (ps := [(ab, 2 + k * 1)]) (zs := [z]) (hS.arr (b := q) (nodup_chunk hS)) rfl (ptrsAt_cons (hcell (2 + k * 1) _ hx) ptrsAt_nil) (all1 hz).2 (by simp only [List.length_append, List.length_cons, List.length_nil]; omega)) ?_
      rintro _ w4 ⟨L4, hW, hS'⟩
      have hS := (hS.call (L := L3) hS').sub (List.sublist_cons_self _ _)
      repeat (first | refine SemW.run tblOk ?_ | refine jA (by omega) ?_ | refine jB (by omega) ?_ | refine jC (by omega) ?_ | refine jD (by omega) ?_ | refine jE rfl ?_ | refine jF (by omega) ?_ | (refine jG ?_; first | with_reducible (first | refine jH ?_ | refine jI ?_ | refine jJ ?_ | refine jK ?_ | refine jL ?_) | refine jM (by omega) ?_ | refine jN (by omega) ?_ | with_reducible refine jM rfl ?_ | refine jM (by assumption) ?_ | refine jN (by assumption) ?_ | refine jM (by decide) ?_ | refine jN (by decide) ?_) | refine jF (ptr_ok tblOk rfl rfl) ?_ | refine jO (fun _ => by kernel_rfl) ?_ | refine jF (by decide) ?_)
      exact ⟨k + 1, ⟨rfl, rfl, rfl, rfl, trivial⟩, ⟨by omega, L4, by rw [hsucc]; simpa [intsB] using hW, hS⟩, by omega⟩
    · have hke : k = 4 := by omega
      subst hke
      repeat (first | refine SemW.run tblOk ?_ | refine jA (by omega) ?_ | refine jB (by omega) ?_ | refine jC (by omega) ?_ | refine jD (by omega) ?_ | refine jE rfl ?_ | refine jF (by omega) ?_ | (refine jG ?_; first | with_reducible (first | refine jH ?_ | refine jI ?_ | refine jJ ?_ | refine jK ?_ | refine jL ?_) | refine jM (by omega) ?_ | refine jN (by omega) ?_ | with_reducible refine jM rfl ?_ | refine jM (by assumption) ?_ | refine jN (by assumption) ?_ | refine jM (by decide) ?_ | refine jN (by decide) ?_) | refine jF (ptr_ok tblOk rfl rfl) ?_ | refine jO (fun _ => by kernel_rfl) ?_ | refine jF (by decide) ?_)
      exact ⟨rfl, (), ⟨rfl, rfl, rfl, trivial⟩, L3, by simpa using hW, hS⟩
  clear hS hW
  rintro - w8 ⟨L2, hW, hS⟩
  repeat (first | refine SemW.run tblOk ?_ | refine jA (by omega) ?_ | refine jB (by omega) ?_ | refine jC (by omega) ?_ | refine jD (by omega) ?_ | refine jE rfl ?_ | refine jF (by omega) ?_ | (refine jG ?_; first | with_reducible (first | refine jH ?_ | refine jI ?_ | refine jJ ?_ | refine jK ?_ | refine jL ?_) | refine jM (by omega) ?_ | refine jN (by omega) ?_ | with_reducible refine jM rfl ?_ | refine jM (by assumption) ?_ | refine jN (by assumption) ?_ | refine jM (by decide) ?_ | refine jN (by decide) ?_) | refine jF (ptr_ok tblOk rfl rfl) ?_ | refine jO (fun _ => by kernel_rfl) ?_ | refine jF (by decide) ?_)
  refine SemW.draw tblOk mixed (fun w' => St w T0 ((ab, repO r a cap) :: L2) w') [8] [0, 1, 2, 3, 5, 6, 7, 4, 8] (by kernel_rfl) hS.drew ?_
  have hS := hS.drew
  repeat (first | refine SemW.run tblOk ?_ | refine jA (by omega) ?_ | refine jB (by omega) ?_ | refine jC (by omega) ?_ | refine jD (by omega) ?_ | refine jE rfl ?_ | refine jF (by omega) ?_ | (refine jG ?_; first | with_reducible (first | refine jH ?_ | refine jI ?_ | refine jJ ?_ | refine jK ?_ | refine jL ?_) | refine jM (by omega) ?_ | refine jN (by omega) ?_ | with_reducible refine jM rfl ?_ | refine jM (by assumption) ?_ | refine jN (by assumption) ?_ | refine jM (by decide) ?_ | refine jN (by decide) ?_) | refine jF (ptr_ok tblOk rfl rfl) ?_ | refine jO (fun _ => by kernel_rfl) ?_ | refine jF (by decide) ?_ | refine hS.ldC rfl ?_ | refine hS.ldnC rfl ?_)
  refine hS.al ?_
  intro q w3 _ hS
  refine Chk.mk (hS.sub (List.sublist_cons_self _ _)) ?_
  repeat (first | refine SemW.run tblOk ?_ | refine jA (by omega) ?_ | refine jB (by omega) ?_ | refine jC (by omega) ?_ | refine jD (by omega) ?_ | refine jE rfl ?_ | refine jF (by omega) ?_ | (refine jG ?_; first | with_reducible (first | refine jH ?_ | refine jI ?_ | refine jJ ?_ | refine jK ?_ | refine jL ?_) | refine jM (by omega) ?_ | refine jN (by omega) ?_ | with_reducible refine jM rfl ?_ | refine jM (by assumption) ?_ | refine jN (by assumption) ?_ | refine jM (by decide) ?_ | refine jN (by decide) ?_) | refine jF (ptr_ok tblOk rfl rfl) ?_ | refine jO (fun _ => by kernel_rfl) ?_ | refine jF (by decide) ?_ | refine hS.ldC rfl ?_ | refine hS.ldnC rfl ?_)
  have hcell : ∀ j v, (replyC r a cap)[j]? = some v → ab ∉ keys L2 ∧ w3.cell? ⟨ab, j, none⟩ = some v := fun j v h => ⟨nodup_chunk (L := L2) (hS.sub (List.sublist_cons_self _ _)), hS.cell (b := ab) h⟩
  refine InvG.mk ⟨f_wire_writer_marks, wrV pb, by kernel_rfl, ?_⟩
  refine Cl.mono (wmarks_spec hW (hS.part (L := L2)) (ps := [(ab, 6)]) (l := [r.over]) (hS.arr (b := q) (nodup_chunk hS)) rfl (ptrsAt_cons (hcell 6 _ rfl) ptrsAt_nil) (by simp) (by simp only [List.length_append]; omega)) ?_
  rintro _ w4 ⟨L3, hW, hS'⟩
  have hS := (hS.call (L := L2) hS').sub (List.sublist_cons_self _ _)
  repeat (first | refine SemW.run tblOk ?_ | refine jA (by omega) ?_ | refine jB (by omega) ?_ | refine jC (by omega) ?_ | refine jD (by omega) ?_ | refine jE rfl ?_ | refine jF (by omega) ?_ | (refine jG ?_; first | with_reducible (first | refine jH ?_ | refine jI ?_ | refine jJ ?_ | refine jK ?_ | refine jL ?_) | refine jM (by omega) ?_ | refine jN (by omega) ?_ | with_reducible refine jM rfl ?_ | refine jM (by assumption) ?_ | refine jN (by assumption) ?_ | refine jM (by decide) ?_ | refine jN (by decide) ?_) | refine jF (ptr_ok tblOk rfl rfl) ?_ | refine jO (fun _ => by kernel_rfl) ?_ | refine jF (by decide) ?_)
  refine SemW.draw tblOk mixed (fun w' => St w T0 ((ab, repO r a cap) :: L3) w') [27] [0, 1, 2, 3, 4, 5, 6, 7, 8, 9, 10, 11, 12, 13, 14, 15, 16, 17, 18, 19, 20, 21, 22, 24, 25, 26, 23, 27] (by kernel_rfl) hS.drew ?_
  have hS := hS.drew
  repeat (first | refine SemW.run tblOk ?_ | refine jA (by omega) ?_ | refine jB (by omega) ?_ | refine jC (by omega) ?_ | refine jD (by omega) ?_ | refine jE rfl ?_ | refine jF (by omega) ?_ | (refine jG ?_; first | with_reducible (first | refine jH ?_ | refine jI ?_ | refine jJ ?_ | refine jK ?_ | refine jL ?_) | refine jM (by omega) ?_ | refine jN (by omega) ?_ | with_reducible refine jM rfl ?_ | refine jM (by assumption) ?_ | refine jN (by assumption) ?_ | refine jM (by decide) ?_ | refine jN (by decide) ?_) | refine jF (ptr_ok tblOk rfl rfl) ?_ | refine jO (fun _ => by kernel_rfl) ?_ | refine jF (by decide) ?_ | refine hS.ldC rfl ?_ | refine hS.ldnC rfl ?_)
  refine hS.al ?_
  intro q w3 _ hS
  refine Chk.mk (hS.sub (List.sublist_cons_self _ _)) ?_
  repeat (first | refine SemW.run tblOk ?_ | refine jA (by omega) ?_ | refine jB (by omega) ?_ | refine jC (by omega) ?_ | refine jD (by omega) ?_ | refine jE rfl ?_ | refine jF (by omega) ?_ | (refine jG ?_; first | with_reducible (first | refine jH ?_ | refine jI ?_ | refine jJ ?_ | refine jK ?_ | refine jL ?_) | refine jM (by omega) ?_ | refine jN (by omega) ?_ | with_reducible refine jM rfl ?_ | refine jM (by assumption) ?_ | refine jN (by assumption) ?_ | refine jM (by decide) ?_ | refine jN (by decide) ?_) | refine jF (ptr_ok tblOk rfl rfl) ?_ | refine jO (fun _ => by kernel_rfl) ?_ | refine jF (by decide) ?_ | refine hS.ldC rfl ?_ | refine hS.ldnC rfl ?_)
  have hcell : ∀ j v, (replyC r a cap)[j]? = some v → ab ∉ keys L3 ∧ w3.cell? ⟨ab, j, none⟩ = some v := fun j v h => ⟨nodup_chunk (L := L3) (hS.sub (List.sublist_cons_self _ _)), hS.cell (b := ab) h⟩
  refine InvG.mk ⟨f_wire_writer_int, wrV pb, by kernel_rfl, ?_⟩
  refine Cl.mono (wint_spec hW (hS.part (L := L3)) (ps := [(ab, 7), (ab, 8), (ab, 9), (ab, 14), (ab, 15), (ab, 16), (ab, 17)]) (zs := [r.pax.id, r.pax.flight, r.pax.cab, r.pax.cls, r.pax.status, r.pax.tick, r.pax.pass]) (hS.arr (b := q) (nodup_chunk hS)) rfl (ptrsAt_cons (hcell 7 _ rfl) (ptrsAt_cons (hcell 8 _ rfl) (ptrsAt_cons (hcell 9 _ rfl) (ptrsAt_cons (hcell 14 _ rfl) (ptrsAt_cons (hcell 15 _ rfl) (ptrsAt_cons (hcell 16 _ rfl) (ptrsAt_cons (hcell 17 _ rfl) ptrsAt_nil))))))) hpall.2 (by simp only [List.length_append, List.length_cons, List.length_nil]; omega)) ?_
  rintro _ w4 ⟨L4, hW, hS'⟩
  have hS := (hS.call (L := L3) hS').sub (List.sublist_cons_self _ _)
  repeat (first | refine SemW.run tblOk ?_ | refine jA (by omega) ?_ | refine jB (by omega) ?_ | refine jC (by omega) ?_ | refine jD (by omega) ?_ | refine jE rfl ?_ | refine jF (by omega) ?_ | (refine jG ?_; first | with_reducible (first | refine jH ?_ | refine jI ?_ | refine jJ ?_ | refine jK ?_ | refine jL ?_) | refine jM (by omega) ?_ | refine jN (by omega) ?_ | with_reducible refine jM rfl ?_ | refine jM (by assumption) ?_ | refine jN (by assumption) ?_ | refine jM (by decide) ?_ | refine jN (by decide) ?_) | refine jF (ptr_ok tblOk rfl rfl) ?_ | refine jO (fun _ => by kernel_rfl) ?_ | refine jF (by decide) ?_)
  refine SemW.draw tblOk mixed (fun w' => St w T0 ((ab, repO r a cap) :: L4) w') [19] [0, 1, 2, 3, 4, 5, 6, 7, 8, 9, 10, 11, 12, 13, 14, 16, 17, 18, 15, 19] (by kernel_rfl) hS.drew ?_
  have hS := hS.drew
  repeat (first | refine SemW.run tblOk ?_ | refine jA (by omega) ?_ | refine jB (by omega) ?_ | refine jC (by omega) ?_ | refine jD (by omega) ?_ | refine jE rfl ?_ | refine jF (by omega) ?_ | (refine jG ?_; first | with_reducible (first | refine jH ?_ | refine jI ?_ | refine jJ ?_ | refine jK ?_ | refine jL ?_) | refine jM (by omega) ?_ | refine jN (by omega) ?_ | with_reducible refine jM rfl ?_ | refine jM (by assumption) ?_ | refine jN (by assumption) ?_ | refine jM (by decide) ?_ | refine jN (by decide) ?_) | refine jF (ptr_ok tblOk rfl rfl) ?_ | refine jO (fun _ => by kernel_rfl) ?_ | refine jF (by decide) ?_ | refine hS.ldC rfl ?_ | refine hS.ldnC rfl ?_)
  refine hS.al ?_
  intro q w3 _ hS
  refine Chk.mk (hS.sub (List.sublist_cons_self _ _)) ?_
  repeat (first | refine SemW.run tblOk ?_ | refine jA (by omega) ?_ | refine jB (by omega) ?_ | refine jC (by omega) ?_ | refine jD (by omega) ?_ | refine jE rfl ?_ | refine jF (by omega) ?_ | (refine jG ?_; first | with_reducible (first | refine jH ?_ | refine jI ?_ | refine jJ ?_ | refine jK ?_ | refine jL ?_) | refine jM (by omega) ?_ | refine jN (by omega) ?_ | with_reducible refine jM rfl ?_ | refine jM (by assumption) ?_ | refine jN (by assumption) ?_ | refine jM (by decide) ?_ | refine jN (by decide) ?_) | refine jF (ptr_ok tblOk rfl rfl) ?_ | refine jO (fun _ => by kernel_rfl) ?_ | refine jF (by decide) ?_ | refine hS.ldC rfl ?_ | refine hS.ldnC rfl ?_)
  have hcell : ∀ j v, (replyC r a cap)[j]? = some v → ab ∉ keys L4 ∧ w3.cell? ⟨ab, j, none⟩ = some v := fun j v h => ⟨nodup_chunk (L := L4) (hS.sub (List.sublist_cons_self _ _)), hS.cell (b := ab) h⟩
  refine InvG.mk ⟨f_wire_writer_marks, wrV pb, by kernel_rfl, ?_⟩
  refine Cl.mono (wmarks_spec hW (hS.part (L := L4)) (ps := [(ab, 10), (ab, 11), (ab, 12), (ab, 13)]) (l := [r.pax.fit, r.pax.infant, r.pax.vol, r.pax.stb]) (hS.arr (b := q) (nodup_chunk hS)) rfl (ptrsAt_cons (hcell 10 _ rfl) (ptrsAt_cons (hcell 11 _ rfl) (ptrsAt_cons (hcell 12 _ rfl) (ptrsAt_cons (hcell 13 _ rfl) ptrsAt_nil)))) (by simp) (by simp only [List.length_append]; omega)) ?_
  rintro _ w4 ⟨L5, hW, hS'⟩
  have hS := (hS.call (L := L4) hS').sub (List.sublist_cons_self _ _)
  repeat (first | refine SemW.run tblOk ?_ | refine jA (by omega) ?_ | refine jB (by omega) ?_ | refine jC (by omega) ?_ | refine jD (by omega) ?_ | refine jE rfl ?_ | refine jF (by omega) ?_ | (refine jG ?_; first | with_reducible (first | refine jH ?_ | refine jI ?_ | refine jJ ?_ | refine jK ?_ | refine jL ?_) | refine jM (by omega) ?_ | refine jN (by omega) ?_ | with_reducible refine jM rfl ?_ | refine jM (by assumption) ?_ | refine jN (by assumption) ?_ | refine jM (by decide) ?_ | refine jN (by decide) ?_) | refine jF (ptr_ok tblOk rfl rfl) ?_ | refine jO (fun _ => by kernel_rfl) ?_ | refine jF (by decide) ?_)
  have hcs := hS.cellNew (L := L5) hsb.1 hsb.2
  refine InvG.mk ⟨f_wire_writer_text, wrV pb, by kernel_rfl, ?_⟩
  refine Cl.mono (wtext_spec hW (hS.part (L := L5)) (p := (sb, 0)) (x := seatB r.pax.num r.pax.c) hcs (by simp only [List.length_append]; omega)) ?_
  rintro _ w4 ⟨L6, hW, hS'⟩
  have hS := hS.call (L := L5) hS'
  repeat (first | refine SemW.run tblOk ?_ | refine jA (by omega) ?_ | refine jB (by omega) ?_ | refine jC (by omega) ?_ | refine jD (by omega) ?_ | refine jE rfl ?_ | refine jF (by omega) ?_ | (refine jG ?_; first | with_reducible (first | refine jH ?_ | refine jI ?_ | refine jJ ?_ | refine jK ?_ | refine jL ?_) | refine jM (by omega) ?_ | refine jN (by omega) ?_ | with_reducible refine jM rfl ?_ | refine jM (by assumption) ?_ | refine jN (by assumption) ?_ | refine jM (by decide) ?_ | refine jN (by decide) ?_) | refine jF (ptr_ok tblOk rfl rfl) ?_ | refine jO (fun _ => by kernel_rfl) ?_ | refine jF (by decide) ?_)
  refine SemW.draw tblOk mixed (fun w' => St w T0 ((ab, repO r a cap) :: L6) w') [7] [0, 1, 2, 3, 4, 5, 6, 7] (by kernel_rfl) hS.drew ?_
  have hS := hS.drew
  repeat (first | refine SemW.run tblOk ?_ | refine jA (by omega) ?_ | refine jB (by omega) ?_ | refine jC (by omega) ?_ | refine jD (by omega) ?_ | refine jE rfl ?_ | refine jF (by omega) ?_ | (refine jG ?_; first | with_reducible (first | refine jH ?_ | refine jI ?_ | refine jJ ?_ | refine jK ?_ | refine jL ?_) | refine jM (by omega) ?_ | refine jN (by omega) ?_ | with_reducible refine jM rfl ?_ | refine jM (by assumption) ?_ | refine jN (by assumption) ?_ | refine jM (by decide) ?_ | refine jN (by decide) ?_) | refine jF (ptr_ok tblOk rfl rfl) ?_ | refine jO (fun _ => by kernel_rfl) ?_ | refine jF (by decide) ?_ | refine hS.ldC rfl ?_ | refine hS.ldnC rfl ?_)
  have hct : ab ∉ keys L6 ∧ _ := ⟨nodup_chunk (L := L6) hS, hS.cell (b := ab) (off := 20) (v := Str r.text) rfl⟩
  refine InvG.mk ⟨f_wire_writer_text, wrV pb, by kernel_rfl, ?_⟩
  refine Cl.mono (wtext_spec hW (hS.part (L := L6)) (p := (ab, 20)) (x := r.text) hct (by simp only [List.length_append, textB]; omega)) ?_
  rintro _ w4 ⟨L7, hW, hS'⟩
  have hS := hS.call (L := L6) hS'
  repeat (first | refine SemW.run tblOk ?_ | refine jA (by omega) ?_ | refine jB (by omega) ?_ | refine jC (by omega) ?_ | refine jD (by omega) ?_ | refine jE rfl ?_ | refine jF (by omega) ?_ | (refine jG ?_; first | with_reducible (first | refine jH ?_ | refine jI ?_ | refine jJ ?_ | refine jK ?_ | refine jL ?_) | refine jM (by omega) ?_ | refine jN (by omega) ?_ | with_reducible refine jM rfl ?_ | refine jM (by assumption) ?_ | refine jN (by assumption) ?_ | refine jM (by decide) ?_ | refine jN (by decide) ?_) | refine jF (ptr_ok tblOk rfl rfl) ?_ | refine jO (fun _ => by kernel_rfl) ?_ | refine jF (by decide) ?_)
  refine ⟨L7, ?_, hS⟩
  unfold replyB paxI
  simpa using hW
end Go.Proofs.YthpmmfapolcaiaaDoor

/- Package wire: Reply. -/
namespace Go.Proofs.YthpmmfapolcaiaaDoor
open Go Go.Eng Go.Proofs
/-- A reply that is handed in. -/
structure ArgR (w : World) (r : ReplyM) (a : Option Addr) (cap : Nat) : Prop where
  ids : Arr w [] a (r.ids.map intV)
  ok : r.ok
  ni : r.ids.length ≤ 16777216
  nt : r.text.length ≤ 16777216
theorem ArgR.keep {w0 w : World} {H : Heap} (hS : St w0 [] H w) {r : ReplyM} {a : Option Addr} {cap : Nat} (h : ArgR w0 r a cap) : ArgR w r a cap := ⟨hS.arrOld h.ids, h.ok, h.ni, h.nt⟩
theorem intsC_one (l : List Int) : (l.map intV).all Value.oneCell' = true := by
  induction l with
  | nil => rfl
  | cons p ps ih => rw [List.map_cons, List.all_cons, ih]; rfl
set_option maxHeartbeats 2000000 in
theorem cloneInt_spec {w : World} {a : Option Addr} {cap : Nat} {l : List Int} (ha : Arr w [] a (l.map intV)) (hlen : l.length ≤ 16777216) :
    Cl Tryd.prog f_slices_Clone_int_int [.slice a l.length cap] w fun v w' => ∃ a' c' L, v = .slice a' l.length c' ∧ Vec T_int 1 a' l.length c' (l.map intV) L ∧ St w [] L w' := by
  have hS := St.start w
  refine en_slices_Clone_int_int rfl ?_
  rcases a with _ | p
  · have hl : l = [] := by
      cases l with
      | nil => rfl
      | cons x l => obtain ⟨g, off, h, -⟩ := ha.get (j := 0) (by simp); cases h
    subst hl
    repeat (first | refine SemW.run tblOk ?_ | refine jA (by omega) ?_ | refine jB (by omega) ?_ | refine jC (by omega) ?_ | refine jD (by omega) ?_ | refine jE rfl ?_ | refine jF (by omega) ?_ | (refine jG ?_; first | with_reducible (first | refine jH ?_ | refine jI ?_ | refine jJ ?_ | refine jK ?_ | refine jL ?_) | refine jM (by omega) ?_ | refine jN (by omega) ?_ | with_reducible refine jM rfl ?_ | refine jM (by assumption) ?_ | refine jN (by assumption) ?_ | refine jM (by decide) ?_ | refine jN (by decide) ?_) | refine jF (ptr_ok tblOk rfl rfl) ?_ | refine jO (fun _ => by kernel_rfl) ?_ | refine jF (by decide) ?_)
    refine eqlSlNil tblOk rfl rfl ?_
    repeat (first | refine SemW.run tblOk ?_ | refine jA (by omega) ?_ | refine jB (by omega) ?_ | refine jC (by omega) ?_ | refine jD (by omega) ?_ | refine jE rfl ?_ | refine jF (by omega) ?_ | (refine jG ?_; first | with_reducible (first | refine jH ?_ | refine jI ?_ | refine jJ ?_ | refine jK ?_ | refine jL ?_) | refine jM (by omega) ?_ | refine jN (by omega) ?_ | with_reducible refine jM rfl ?_ | refine jM (by assumption) ?_ | refine jN (by assumption) ?_ | refine jM (by decide) ?_ | refine jN (by decide) ?_) | refine jF (ptr_ok tblOk rfl rfl) ?_ | refine jO (fun _ => by kernel_rfl) ?_ | refine jF (by decide) ?_)
    exact ⟨_, _, [], rfl, Vec.nil, hS⟩
  · repeat (first | refine SemW.run tblOk ?_ | refine jA (by omega) ?_ | refine jB (by omega) ?_ | refine jC (by omega) ?_ | refine jD (by omega) ?_ | refine jE rfl ?_ | refine jF (by omega) ?_ | (refine jG ?_; first | with_reducible (first | refine jH ?_ | refine jI ?_ | refine jJ ?_ | refine jK ?_ | refine jL ?_) | refine jM (by omega) ?_ | refine jN (by omega) ?_ | with_reducible refine jM rfl ?_ | refine jM (by assumption) ?_ | refine jN (by assumption) ?_ | refine jM (by decide) ?_ | refine jN (by decide) ?_) | refine jF (ptr_ok tblOk rfl rfl) ?_ | refine jO (fun _ => by kernel_rfl) ?_ | refine jF (by decide) ?_)
    refine eqlSlNil tblOk rfl rfl ?_
    repeat (first | refine SemW.run tblOk ?_ | refine jA (by omega) ?_ | refine jB (by omega) ?_ | refine jC (by omega) ?_ | refine jD (by omega) ?_ | refine jE rfl ?_ | refine jF (by omega) ?_ | (refine jG ?_; first | with_reducible (first | refine jH ?_ | refine jI ?_ | refine jJ ?_ | refine jK ?_ | refine jL ?_) | refine jM (by omega) ?_ | refine jN (by omega) ?_ | with_reducible refine jM rfl ?_ | refine jM (by assumption) ?_ | refine jN (by assumption) ?_ | refine jM (by decide) ?_ | refine jN (by decide) ?_) | refine jF (ptr_ok tblOk rfl rfl) ?_ | refine jO (fun _ => by kernel_rfl) ?_ | refine jF (by decide) ?_)
    refine hS.al ?_
    intro r w1 _ hS
    have hv : Vec T_int 1 (some ⟨r, 0, none⟩) 0 0 [] [(r, .cells ⟨[]⟩ T_int (0, 0))] := Vec.row r 0 0 [] [] rfl rfl (Nat.le_refl _)
    repeat (first | refine SemW.run tblOk ?_ | refine jA (by omega) ?_ | refine jB (by omega) ?_ | refine jC (by omega) ?_ | refine jD (by omega) ?_ | refine jE rfl ?_ | refine jF (by omega) ?_ | (refine jG ?_; first | with_reducible (first | refine jH ?_ | refine jI ?_ | refine jJ ?_ | refine jK ?_ | refine jL ?_) | refine jM (by omega) ?_ | refine jN (by omega) ?_ | with_reducible refine jM rfl ?_ | refine jM (by assumption) ?_ | refine jN (by assumption) ?_ | refine jM (by decide) ?_ | refine jN (by decide) ?_) | refine jF (ptr_ok tblOk rfl rfl) ?_ | refine jO (fun _ => by kernel_rfl) ?_ | refine jF (by decide) ?_)
    refine St.app (sz := 1) (m := l.length) tblOk rfl rfl rfl rfl hS hv (news := l.map intV) (by simp) (hS.arrOld ha) (intsC_one l) (by show (_ + _) * 8 ≤ _; omega) (by omega) ?_
    intro a1 c1 L1 w2 hv hS
    rw [List.nil_append, Nat.zero_add] at hv
    rw [Nat.zero_add]
    repeat (first | refine SemW.run tblOk ?_ | refine jA (by omega) ?_ | refine jB (by omega) ?_ | refine jC (by omega) ?_ | refine jD (by omega) ?_ | refine jE rfl ?_ | refine jF (by omega) ?_ | (refine jG ?_; first | with_reducible (first | refine jH ?_ | refine jI ?_ | refine jJ ?_ | refine jK ?_ | refine jL ?_) | refine jM (by omega) ?_ | refine jN (by omega) ?_ | with_reducible refine jM rfl ?_ | refine jM (by assumption) ?_ | refine jN (by assumption) ?_ | refine jM (by decide) ?_ | refine jN (by decide) ?_) | refine jF (ptr_ok tblOk rfl rfl) ?_ | refine jO (fun _ => by kernel_rfl) ?_ | refine jF (by decide) ?_)
    exact ⟨a1, c1, L1, rfl, hv, hS⟩
def repOut (r : ReplyM) : List Value := if seatGood r.pax.num r.pax.c = true ∧ (replyB r).length ≤ 65536 then [Str (frameB (replyB r)), .int .i64 0] else [Str [], .int .i64 34]
theorem replyB_len {r : ReplyM} (hok : r.ok) (hni : r.ids.length ≤ 16777216) (hnt : r.text.length ≤ 16777216) : (replyB r).length ≤ 1099511627776 := by
  have hp := hok.pax
  have hsl := seatB_len r.pax.num r.pax.c
  have hi1 := ints_len [r.code] (all1 hok.code).2
  have hi2 := ints_len r.ids hok.ids
  have hi3 := ints_len [r.n0, r.n1, r.n2, r.n3] (all4 hok.n0 hok.n1 hok.n2 hok.n3).2
  have hi4 := ints_len (paxI r.pax) (all7 hp.id hp.flight hp.cab hp.cls hp.status hp.tick hp.pass).2
  have hn1 := numB_len10 r.ids.length (by omega)
  have hn2 := numB_len10 (marksN [r.over]) (by have h3' : marksN [r.over] < 2 := marksN_lt [r.over]; omega)
  have hn3 := numB_len10 (marksN [r.pax.fit, r.pax.infant, r.pax.vol, r.pax.stb]) (by have := marks4_lt r.pax.fit r.pax.infant r.pax.vol r.pax.stb; omega)
  have hn4 := numB_len10 (seatB r.pax.num r.pax.c).length (by omega)
  have hn5 := numB_len10 r.text.length (by omega)
  have hpi : (paxI r.pax).length = 7 := rfl
  simp only [List.length_cons, List.length_nil] at hi1 hi3
  unfold replyB textB
  simp only [List.length_append]; omega
set_option maxRecDepth 4000 in
set_option maxHeartbeats 8000000 in
theorem Reply_spec {w : World} {r : ReplyM} {a : Option Addr} {cap : Nat} (hA : ArgR w r a cap) : Cl Tryd.prog f_wire_Reply [.agg ⟨replyC r a cap⟩] w fun v w' => v = .tuple ⟨repOut r⟩ ∧ St w [] [] w' := by
  have hS := St.start w
  have hok := hA.ok
  have hbl := replyB_len hok hA.ni hA.nt
  have hsl := seatB_len r.pax.num r.pax.c
  unfold repOut
  refine en_wire_Reply rfl ?_
  repeat (first | refine SemW.run tblOk ?_ | refine jA (by omega) ?_ | refine jB (by omega) ?_ | refine jC (by omega) ?_ | refine jD (by omega) ?_ | refine jE rfl ?_ | refine jF (by omega) ?_ | (refine jG ?_; first | with_reducible (first | refine jH ?_ | refine jI ?_ | refine jJ ?_ | refine jK ?_ | refine jL ?_) | refine jM (by omega) ?_ | refine jN (by omega) ?_ | with_reducible refine jM rfl ?_ | refine jM (by assumption) ?_ | refine jN (by assumption) ?_ | refine jM (by decide) ?_ | refine jN (by decide) ?_) | refine jF (ptr_ok tblOk rfl rfl) ?_ | refine jO (fun _ => by kernel_rfl) ?_ | refine jF (by decide) ?_)
  refine hS.al ?_
  intro b1 w1 _ hS
  repeat (first | refine SemW.run tblOk ?_ | refine jA (by omega) ?_ | refine jB (by omega) ?_ | refine jC (by omega) ?_ | refine jD (by omega) ?_ | refine jE rfl ?_ | refine jF (by omega) ?_ | (refine jG ?_; first | with_reducible (first | refine jH ?_ | refine jI ?_ | refine jJ ?_ | refine jK ?_ | refine jL ?_) | refine jM (by omega) ?_ | refine jN (by omega) ?_ | with_reducible refine jM rfl ?_ | refine jM (by assumption) ?_ | refine jN (by assumption) ?_ | refine jM (by decide) ?_ | refine jN (by decide) ?_) | refine jF (ptr_ok tblOk rfl rfl) ?_ | refine jO (fun _ => by kernel_rfl) ?_ | refine jF (by decide) ?_ | refine hS.ld rfl ?_ | refine hS.ldn rfl ?_ | (refine hS.st rfl rfl ?_; intro _ hS))
  refine hS.al ?_
  intro sb w2 _ hS
  repeat (first | refine SemW.run tblOk ?_ | refine jA (by omega) ?_ | refine jB (by omega) ?_ | refine jC (by omega) ?_ | refine jD (by omega) ?_ | refine jE rfl ?_ | refine jF (by omega) ?_ | (refine jG ?_; first | with_reducible (first | refine jH ?_ | refine jI ?_ | refine jJ ?_ | refine jK ?_ | refine jL ?_) | refine jM (by omega) ?_ | refine jN (by omega) ?_ | with_reducible refine jM rfl ?_ | refine jM (by assumption) ?_ | refine jN (by assumption) ?_ | refine jM (by decide) ?_ | refine jN (by decide) ?_) | refine jF (ptr_ok tblOk rfl rfl) ?_ | refine jO (fun _ => by kernel_rfl) ?_ | refine jF (by decide) ?_ | refine hS.ld rfl ?_ | refine hS.ldn rfl ?_ | (refine hS.st rfl rfl ?_; intro _ hS))
  refine neqAgg (n := 2) (by omega) (by kernel_rfl) (eqSeat r.pax.num r.pax.c 0 0) ?_
  by_cases hz : r.pax.num = 0 ∧ r.pax.c = 0
  · have hz2 : seatB r.pax.num r.pax.c = [] := if_pos hz
    have hsg : seatGood r.pax.num r.pax.c = true := by unfold seatGood; rw [hz2]; rfl
    have hne : ¬ seatB r.pax.num r.pax.c = [45] := by rw [hz2]; decide
    rw [decide_eq_true hz, Bool.not_true]
    have hS := (show St w [] [(sb, .cells ⟨[Str []]⟩ T_string (0, 0)), (b1, repO r a cap)] _ from hS)
    rw [← hz2] at hS
    repeat (first | refine SemW.run tblOk ?_ | refine jA (by omega) ?_ | refine jB (by omega) ?_ | refine jC (by omega) ?_ | refine jD (by omega) ?_ | refine jE rfl ?_ | refine jF (by omega) ?_ | (refine jG ?_; first | with_reducible (first | refine jH ?_ | refine jI ?_ | refine jJ ?_ | refine jK ?_ | refine jL ?_) | refine jM (by omega) ?_ | refine jN (by omega) ?_ | with_reducible refine jM rfl ?_ | refine jM (by assumption) ?_ | refine jN (by assumption) ?_ | refine jM (by decide) ?_ | refine jN (by decide) ?_) | refine jF (ptr_ok tblOk rfl rfl) ?_ | refine jO (fun _ => by kernel_rfl) ?_ | refine jF (by decide) ?_ | refine hS.ld rfl ?_ | refine hS.ldn rfl ?_ | (refine hS.st rfl rfl ?_; intro _ hS))
    refine Cl.mono PNew_spec ?_
    rintro _ w3 ⟨pb, L, rfl, hW, hS'⟩
    have hS := hS.callNew hS'
    repeat (first | refine SemW.run tblOk ?_ | refine jA (by omega) ?_ | refine jB (by omega) ?_ | refine jC (by omega) ?_ | refine jD (by omega) ?_ | refine jE rfl ?_ | refine jF (by omega) ?_ | (refine jG ?_; first | with_reducible (first | refine jH ?_ | refine jI ?_ | refine jJ ?_ | refine jK ?_ | refine jL ?_) | refine jM (by omega) ?_ | refine jN (by omega) ?_ | with_reducible refine jM rfl ?_ | refine jM (by assumption) ?_ | refine jN (by assumption) ?_ | refine jM (by decide) ?_ | refine jN (by decide) ?_) | refine jF (ptr_ok tblOk rfl rfl) ?_ | refine jO (fun _ => by kernel_rfl) ?_ | refine jF (by decide) ?_ | refine hS.ld rfl ?_ | refine hS.ldn rfl ?_ | (refine hS.st rfl rfl ?_; intro _ hS))
    refine hS.al ?_
    intro b5 w4 _ hS
    repeat (first | refine SemW.run tblOk ?_ | refine jA (by omega) ?_ | refine jB (by omega) ?_ | refine jC (by omega) ?_ | refine jD (by omega) ?_ | refine jE rfl ?_ | refine jF (by omega) ?_ | (refine jG ?_; first | with_reducible (first | refine jH ?_ | refine jI ?_ | refine jJ ?_ | refine jK ?_ | refine jL ?_) | refine jM (by omega) ?_ | refine jN (by omega) ?_ | with_reducible refine jM rfl ?_ | refine jM (by assumption) ?_ | refine jN (by assumption) ?_ | refine jM (by decide) ?_ | refine jN (by decide) ?_) | refine jF (ptr_ok tblOk rfl rfl) ?_ | refine jO (fun _ => by kernel_rfl) ?_ | refine jF (by decide) ?_ | refine hS.ld rfl ?_ | refine hS.ldn rfl ?_ | (refine hS.st rfl rfl ?_; intro _ hS))
    refine hS.al ?_
    intro b6 w5 _ hS
    repeat (first | refine SemW.run tblOk ?_ | refine jA (by omega) ?_ | refine jB (by omega) ?_ | refine jC (by omega) ?_ | refine jD (by omega) ?_ | refine jE rfl ?_ | refine jF (by omega) ?_ | (refine jG ?_; first | with_reducible (first | refine jH ?_ | refine jI ?_ | refine jJ ?_ | refine jK ?_ | refine jL ?_) | refine jM (by omega) ?_ | refine jN (by omega) ?_ | with_reducible refine jM rfl ?_ | refine jM (by assumption) ?_ | refine jN (by assumption) ?_ | refine jM (by decide) ?_ | refine jN (by decide) ?_) | refine jF (ptr_ok tblOk rfl rfl) ?_ | refine jO (fun _ => by kernel_rfl) ?_ | refine jF (by decide) ?_ | refine hS.ld rfl ?_ | refine hS.ldn rfl ?_ | (refine hS.st rfl rfl ?_; intro _ hS))
    refine Cl.mono (cloneInt_spec (hS.arrOld hA.ids) hA.ni) ?_
    rintro _ w6 ⟨a', c', Lr, rfl, hv, hS'⟩
    have hS := hS.callNew hS'
    repeat (first | refine SemW.run tblOk ?_ | refine jA (by omega) ?_ | refine jB (by omega) ?_ | refine jC (by omega) ?_ | refine jD (by omega) ?_ | refine jE rfl ?_ | refine jF (by omega) ?_ | (refine jG ?_; first | with_reducible (first | refine jH ?_ | refine jI ?_ | refine jJ ?_ | refine jK ?_ | refine jL ?_) | refine jM (by omega) ?_ | refine jN (by omega) ?_ | with_reducible refine jM rfl ?_ | refine jM (by assumption) ?_ | refine jN (by assumption) ?_ | refine jM (by decide) ?_ | refine jN (by decide) ?_) | refine jF (ptr_ok tblOk rfl rfl) ?_ | refine jO (fun _ => by kernel_rfl) ?_ | refine jF (by decide) ?_ | refine hS.ld rfl ?_ | refine hS.ldn rfl ?_ | (refine hS.st rfl rfl ?_; intro _ hS))
    have hS : St w [] (Lr ++ ((b6, repO r a' c') :: (b5, .cells ⟨[ptr pb]⟩ T_wire_writer (0, 0)) :: (L ++ [(sb, .cells ⟨[Str (seatB r.pax.num r.pax.c)]⟩ T_string (0, 0)), (b1, repO r a cap)]))) _ := hS
    have hS : St w [] (Lr ++ ((b5, .cells ⟨[ptr pb]⟩ T_wire_writer (0, 0)) :: (((b6, repO r a' c') :: L) ++ [(sb, .cells ⟨[Str (seatB r.pax.num r.pax.c)]⟩ T_string (0, 0)), (b1, repO r a cap)]))) _ := hS.perm (List.Perm.append_left Lr (List.Perm.swap _ _ _))
    have hsbn : sb ∉ b6 :: keys L := by
      have h1 := hS.sub (((List.Sublist.append_left (List.Sublist.cons_cons _ (List.nil_sublist _)) _).trans (List.sublist_cons_self _ _)).trans (List.sublist_append_right _ _) : (((b6, repO r a' c') :: L) ++ [(sb, Obj.cells ⟨[Str (seatB r.pax.num r.pax.c)]⟩ T_string (0, 0))]).Sublist _)
      have h2 : St w [] ((sb, Obj.cells ⟨[Str (seatB r.pax.num r.pax.c)]⟩ T_string (0, 0)) :: ((b6, repO r a' c') :: L)) _ := h1.perm List.perm_append_comm
      exact nodup_chunk (L := (b6, repO r a' c') :: L) h2
    have hrn : ∀ b ∈ keys Lr, b ∉ b6 :: keys L := not_in (B := (b6, repO r a' c') :: L) (hS.sub (List.Sublist.append_left (List.sublist_cons_self _ _) Lr))
    refine Cl.mono (reply_wr (r := r) (a := a') (cap := c') hW (hS.part (L := (b6, repO r a' c') :: L)) ⟨hsbn, hS.cell (b := sb) rfl⟩ (hv.arr hS hrn) hok hA.ni hA.nt) ?_
    rintro _ w7 ⟨L2, hW, hS'⟩
    have hS := hS.call (L := (b6, repO r a' c') :: L) hS'
    have hS : St w [] (Lr ++ ((b5, .cells ⟨[ptr pb]⟩ T_wire_writer (0, 0)) :: (b6, repO r a' c') :: (L2 ++ [(sb, .cells ⟨[Str (seatB r.pax.num r.pax.c)]⟩ T_string (0, 0)), (b1, repO r a cap)]))) _ := hS
    repeat (first | refine SemW.run tblOk ?_ | refine jA (by omega) ?_ | refine jB (by omega) ?_ | refine jC (by omega) ?_ | refine jD (by omega) ?_ | refine jE rfl ?_ | refine jF (by omega) ?_ | (refine jG ?_; first | with_reducible (first | refine jH ?_ | refine jI ?_ | refine jJ ?_ | refine jK ?_ | refine jL ?_) | refine jM (by omega) ?_ | refine jN (by omega) ?_ | with_reducible refine jM rfl ?_ | refine jM (by assumption) ?_ | refine jN (by assumption) ?_ | refine jM (by decide) ?_ | refine jN (by decide) ?_) | refine jF (ptr_ok tblOk rfl rfl) ?_ | refine jO (fun _ => by kernel_rfl) ?_ | refine jF (by decide) ?_ | refine hS.ld rfl ?_ | refine hS.ldn rfl ?_ | (refine hS.st rfl rfl ?_; intro _ hS))
    refine Cl.mono (wseal_spec hW (hS.part (L := L2)) (by omega)) ?_
    rintro _ w8 ⟨rfl, hS'⟩
    have hS := hS.call0 hS'
    by_cases hl : (replyB r).length ≤ 65536
    · rw [if_pos hl, if_pos ⟨hsg, hl⟩]
      repeat (first | refine SemW.run tblOk ?_ | refine jA (by omega) ?_ | refine jB (by omega) ?_ | refine jC (by omega) ?_ | refine jD (by omega) ?_ | refine jE rfl ?_ | refine jF (by omega) ?_ | (refine jG ?_; first | with_reducible (first | refine jH ?_ | refine jI ?_ | refine jJ ?_ | refine jK ?_ | refine jL ?_) | refine jM (by omega) ?_ | refine jN (by omega) ?_ | with_reducible refine jM rfl ?_ | refine jM (by assumption) ?_ | refine jN (by assumption) ?_ | refine jM (by decide) ?_ | refine jN (by decide) ?_) | refine jF (ptr_ok tblOk rfl rfl) ?_ | refine jO (fun _ => by kernel_rfl) ?_ | refine jF (by decide) ?_ | refine hS.ld rfl ?_ | refine hS.ldn rfl ?_ | (refine hS.st rfl rfl ?_; intro _ hS))
      exact ⟨rfl, hS.nil⟩
    · rw [if_neg hl, if_neg (fun h => hl h.2)]
      repeat (first | refine SemW.run tblOk ?_ | refine jA (by omega) ?_ | refine jB (by omega) ?_ | refine jC (by omega) ?_ | refine jD (by omega) ?_ | refine jE rfl ?_ | refine jF (by omega) ?_ | (refine jG ?_; first | with_reducible (first | refine jH ?_ | refine jI ?_ | refine jJ ?_ | refine jK ?_ | refine jL ?_) | refine jM (by omega) ?_ | refine jN (by omega) ?_ | with_reducible refine jM rfl ?_ | refine jM (by assumption) ?_ | refine jN (by assumption) ?_ | refine jM (by decide) ?_ | refine jN (by decide) ?_) | refine jF (ptr_ok tblOk rfl rfl) ?_ | refine jO (fun _ => by kernel_rfl) ?_ | refine jF (by decide) ?_ | refine hS.ld rfl ?_ | refine hS.ldn rfl ?_ | (refine hS.st rfl rfl ?_; intro _ hS))
      exact ⟨rfl, hS.nil⟩
  · have hz2 : seatB r.pax.num r.pax.c = labelB r.pax.num r.pax.c := if_neg hz
    rw [decide_eq_false hz, Bool.not_false]
    repeat (first | refine SemW.run tblOk ?_ | refine jA (by omega) ?_ | refine jB (by omega) ?_ | refine jC (by omega) ?_ | refine jD (by omega) ?_ | refine jE rfl ?_ | refine jF (by omega) ?_ | (refine jG ?_; first | with_reducible (first | refine jH ?_ | refine jI ?_ | refine jJ ?_ | refine jK ?_ | refine jL ?_) | refine jM (by omega) ?_ | refine jN (by omega) ?_ | with_reducible refine jM rfl ?_ | refine jM (by assumption) ?_ | refine jN (by assumption) ?_ | refine jM (by decide) ?_ | refine jN (by decide) ?_) | refine jF (ptr_ok tblOk rfl rfl) ?_ | refine jO (fun _ => by kernel_rfl) ?_ | refine jF (by decide) ?_ | refine hS.ld rfl ?_ | refine hS.ldn rfl ?_ | (refine hS.st rfl rfl ?_; intro _ hS))
    refine Cl.mono (Label_spec r.pax.num r.pax.c hok.pax.c) ?_
    rintro _ w3 ⟨rfl, hS'⟩
    have hS := hS.call0 hS'
    rw [← hz2]
    cases hsg : seatGood r.pax.num r.pax.c with
    | true =>
      have hne : ¬ seatB r.pax.num r.pax.c = [45] := of_decide_eq_true hsg
      have hsg : true = true := rfl
      repeat (first | refine SemW.run tblOk ?_ | refine jA (by omega) ?_ | refine jB (by omega) ?_ | refine jC (by omega) ?_ | refine jD (by omega) ?_ | refine jE rfl ?_ | refine jF (by omega) ?_ | (refine jG ?_; first | with_reducible (first | refine jH ?_ | refine jI ?_ | refine jJ ?_ | refine jK ?_ | refine jL ?_) | refine jM (by omega) ?_ | refine jN (by omega) ?_ | with_reducible refine jM rfl ?_ | refine jM (by assumption) ?_ | refine jN (by assumption) ?_ | refine jM (by decide) ?_ | refine jN (by decide) ?_) | refine jF (ptr_ok tblOk rfl rfl) ?_ | refine jO (fun _ => by kernel_rfl) ?_ | refine jF (by decide) ?_ | refine hS.ld rfl ?_ | refine hS.ldn rfl ?_ | (refine hS.st rfl rfl ?_; intro _ hS))
      refine Cl.mono PNew_spec ?_
      rintro _ w3 ⟨pb, L, rfl, hW, hS'⟩
      have hS := hS.callNew hS'
      repeat (first | refine SemW.run tblOk ?_ | refine jA (by omega) ?_ | refine jB (by omega) ?_ | refine jC (by omega) ?_ | refine jD (by omega) ?_ | refine jE rfl ?_ | refine jF (by omega) ?_ | (refine jG ?_; first | with_reducible (first | refine jH ?_ | refine jI ?_ | refine jJ ?_ | refine jK ?_ | refine jL ?_) | refine jM (by omega) ?_ | refine jN (by omega) ?_ | with_reducible refine jM rfl ?_ | refine jM (by assumption) ?_ | refine jN (by assumption) ?_ | refine jM (by decide) ?_ | refine jN (by decide) ?_) | refine jF (ptr_ok tblOk rfl rfl) ?_ | refine jO (fun _ => by kernel_rfl) ?_ | refine jF (by decide) ?_ | refine hS.ld rfl ?_ | refine hS.ldn rfl ?_ | (refine hS.st rfl rfl ?_; intro _ hS))
      refine hS.al ?_
      intro b5 w4 _ hS
      repeat (first | refine SemW.run tblOk ?_ | refine jA (by omega) ?_ | refine jB (by omega) ?_ | refine jC (by omega) ?_ | refine jD (by omega) ?_ | refine jE rfl ?_ | refine jF (by omega) ?_ | (refine jG ?_; first | with_reducible (first | refine jH ?_ | refine jI ?_ | refine jJ ?_ | refine jK ?_ | refine jL ?_) | refine jM (by omega) ?_ | refine jN (by omega) ?_ | with_reducible refine jM rfl ?_ | refine jM (by assumption) ?_ | refine jN (by assumption) ?_ | refine jM (by decide) ?_ | refine jN (by decide) ?_) | refine jF (ptr_ok tblOk rfl rfl) ?_ | refine jO (fun _ => by kernel_rfl) ?_ | refine jF (by decide) ?_ | refine hS.ld rfl ?_ | refine hS.ldn rfl ?_ | (refine hS.st rfl rfl ?_; intro _ hS))
      refine hS.al ?_
      intro b6 w5 _ hS
      repeat (first | refine SemW.run tblOk ?_ | refine jA (by omega) ?_ | refine jB (by omega) ?_ | refine jC (by omega) ?_ | refine jD (by omega) ?_ | refine jE rfl ?_ | refine jF (by omega) ?_ | (refine jG ?_; first | with_reducible (first | refine jH ?_ | refine jI ?_ | refine jJ ?_ | refine jK ?_ | refine jL ?_) | refine jM (by omega) ?_ | refine jN (by omega) ?_ | with_reducible refine jM rfl ?_ | refine jM (by assumption) ?_ | refine jN (by assumption) ?_ | refine jM (by decide) ?_ | refine jN (by decide) ?_) | refine jF (ptr_ok tblOk rfl rfl) ?_ | refine jO (fun _ => by kernel_rfl) ?_ | refine jF (by decide) ?_ | refine hS.ld rfl ?_ | refine hS.ldn rfl ?_ | (refine hS.st rfl rfl ?_; intro _ hS))
      refine Cl.mono (cloneInt_spec (hS.arrOld hA.ids) hA.ni) ?_
      rintro _ w6 ⟨a', c', Lr, rfl, hv, hS'⟩
      have hS := hS.callNew hS'
      repeat (first | refine SemW.run tblOk ?_ | refine jA (by omega) ?_ | refine jB (by omega) ?_ | refine jC (by omega) ?_ | refine jD (by omega) ?_ | refine jE rfl ?_ | refine jF (by omega) ?_ | (refine jG ?_; first | with_reducible (first | refine jH ?_ | refine jI ?_ | refine jJ ?_ | refine jK ?_ | refine jL ?_) | refine jM (by omega) ?_ | refine jN (by omega) ?_ | with_reducible refine jM rfl ?_ | refine jM (by assumption) ?_ | refine jN (by assumption) ?_ | refine jM (by decide) ?_ | refine jN (by decide) ?_) | refine jF (ptr_ok tblOk rfl rfl) ?_ | refine jO (fun _ => by kernel_rfl) ?_ | refine jF (by decide) ?_ | refine hS.ld rfl ?_ | refine hS.ldn rfl ?_ | (refine hS.st rfl rfl ?_; intro _ hS))
      have hS : St w [] (Lr ++ ((b6, repO r a' c') :: (b5, .cells ⟨[ptr pb]⟩ T_wire_writer (0, 0)) :: (L ++ [(sb, .cells ⟨[Str (seatB r.pax.num r.pax.c)]⟩ T_string (0, 0)), (b1, repO r a cap)]))) _ := hS
      have hS : St w [] (Lr ++ ((b5, .cells ⟨[ptr pb]⟩ T_wire_writer (0, 0)) :: (((b6, repO r a' c') :: L) ++ [(sb, .cells ⟨[Str (seatB r.pax.num r.pax.c)]⟩ T_string (0, 0)), (b1, repO r a cap)]))) _ := hS.perm (List.Perm.append_left Lr (List.Perm.swap _ _ _))
      have hsbn : sb ∉ b6 :: keys L := by
        have h1 := hS.sub (((List.Sublist.append_left (List.Sublist.cons_cons _ (List.nil_sublist _)) _).trans (List.sublist_cons_self _ _)).trans (List.sublist_append_right _ _) : (((b6, repO r a' c') :: L) ++ [(sb, Obj.cells ⟨[Str (seatB r.pax.num r.pax.c)]⟩ T_string (0, 0))]).Sublist _)
        have h2 : St w [] ((sb, Obj.cells ⟨[Str (seatB r.pax.num r.pax.c)]⟩ T_string (0, 0)) :: ((b6, repO r a' c') :: L)) _ := h1.perm List.perm_append_comm
        exact nodup_chunk (L := (b6, repO r a' c') :: L) h2
      have hrn : ∀ b ∈ keys Lr, b ∉ b6 :: keys L := not_in (B := (b6, repO r a' c') :: L) (hS.sub (List.Sublist.append_left (List.sublist_cons_self _ _) Lr))
      refine Cl.mono (reply_wr (r := r) (a := a') (cap := c') hW (hS.part (L := (b6, repO r a' c') :: L)) ⟨hsbn, hS.cell (b := sb) rfl⟩ (hv.arr hS hrn) hok hA.ni hA.nt) ?_
      rintro _ w7 ⟨L2, hW, hS'⟩
      have hS := hS.call (L := (b6, repO r a' c') :: L) hS'
      have hS : St w [] (Lr ++ ((b5, .cells ⟨[ptr pb]⟩ T_wire_writer (0, 0)) :: (b6, repO r a' c') :: (L2 ++ [(sb, .cells ⟨[Str (seatB r.pax.num r.pax.c)]⟩ T_string (0, 0)), (b1, repO r a cap)]))) _ := hS
      repeat (first | refine SemW.run tblOk ?_ | refine jA (by omega) ?_ | refine jB (by omega) ?_ | refine jC (by omega) ?_ | refine jD (by omega) ?_ | refine jE rfl ?_ | refine jF (by omega) ?_ | (refine jG ?_; first | with_reducible (first | refine jH ?_ | refine jI ?_ | refine jJ ?_ | refine jK ?_ | refine jL ?_) | refine jM (by omega) ?_ | refine jN (by omega) ?_ | with_reducible refine jM rfl ?_ | refine jM (by assumption) ?_ | refine jN (by assumption) ?_ | refine jM (by decide) ?_ | refine jN (by decide) ?_) | refine jF (ptr_ok tblOk rfl rfl) ?_ | refine jO (fun _ => by kernel_rfl) ?_ | refine jF (by decide) ?_ | refine hS.ld rfl ?_ | refine hS.ldn rfl ?_ | (refine hS.st rfl rfl ?_; intro _ hS))
      refine Cl.mono (wseal_spec hW (hS.part (L := L2)) (by omega)) ?_
      rintro _ w8 ⟨rfl, hS'⟩
      have hS := hS.call0 hS'
      by_cases hl : (replyB r).length ≤ 65536
      · rw [if_pos hl, if_pos ⟨hsg, hl⟩]
        repeat (first | refine SemW.run tblOk ?_ | refine jA (by omega) ?_ | refine jB (by omega) ?_ | refine jC (by omega) ?_ | refine jD (by omega) ?_ | refine jE rfl ?_ | refine jF (by omega) ?_ | (refine jG ?_; first | with_reducible (first | refine jH ?_ | refine jI ?_ | refine jJ ?_ | refine jK ?_ | refine jL ?_) | refine jM (by omega) ?_ | refine jN (by omega) ?_ | with_reducible refine jM rfl ?_ | refine jM (by assumption) ?_ | refine jN (by assumption) ?_ | refine jM (by decide) ?_ | refine jN (by decide) ?_) | refine jF (ptr_ok tblOk rfl rfl) ?_ | refine jO (fun _ => by kernel_rfl) ?_ | refine jF (by decide) ?_ | refine hS.ld rfl ?_ | refine hS.ldn rfl ?_ | (refine hS.st rfl rfl ?_; intro _ hS))
        exact ⟨rfl, hS.nil⟩
      · rw [if_neg hl, if_neg (fun h => hl h.2)]
        repeat (first | refine SemW.run tblOk ?_ | refine jA (by omega) ?_ | refine jB (by omega) ?_ | refine jC (by omega) ?_ | refine jD (by omega) ?_ | refine jE rfl ?_ | refine jF (by omega) ?_ | (refine jG ?_; first | with_reducible (first | refine jH ?_ | refine jI ?_ | refine jJ ?_ | refine jK ?_ | refine jL ?_) | refine jM (by omega) ?_ | refine jN (by omega) ?_ | with_reducible refine jM rfl ?_ | refine jM (by assumption) ?_ | refine jN (by assumption) ?_ | refine jM (by decide) ?_ | refine jN (by decide) ?_) | refine jF (ptr_ok tblOk rfl rfl) ?_ | refine jO (fun _ => by kernel_rfl) ?_ | refine jF (by decide) ?_ | refine hS.ld rfl ?_ | refine hS.ldn rfl ?_ | (refine hS.st rfl rfl ?_; intro _ hS))
        exact ⟨rfl, hS.nil⟩
    | false =>
      have hne : seatB r.pax.num r.pax.c = [45] := Decidable.not_not.1 (of_decide_eq_false hsg)
      rw [if_neg (by rintro ⟨h, -⟩; cases h)]
      repeat (first | refine SemW.run tblOk ?_ | refine jA (by omega) ?_ | refine jB (by omega) ?_ | refine jC (by omega) ?_ | refine jD (by omega) ?_ | refine jE rfl ?_ | refine jF (by omega) ?_ | (refine jG ?_; first | with_reducible (first | refine jH ?_ | refine jI ?_ | refine jJ ?_ | refine jK ?_ | refine jL ?_) | refine jM (by omega) ?_ | refine jN (by omega) ?_ | with_reducible refine jM rfl ?_ | refine jM (by assumption) ?_ | refine jN (by assumption) ?_ | refine jM (by decide) ?_ | refine jN (by decide) ?_) | refine jF (ptr_ok tblOk rfl rfl) ?_ | refine jO (fun _ => by kernel_rfl) ?_ | refine jF (by decide) ?_ | refine hS.ld rfl ?_ | refine hS.ldn rfl ?_ | (refine hS.st rfl rfl ?_; intro _ hS))
      exact ⟨rfl, hS.nil⟩
end Go.Proofs.YthpmmfapolcaiaaDoor

/- tarmaclaw23.lives. -/
namespace Go.Proofs.YthpmmfapolcaiaaDoor
open Go Go.Eng Go.Proofs
def liveC : CmdM := { hdC 5 7 with id := 3 }
theorem liveC_ok : liveC.ok := { hdC_ok (⟨by decide, by decide⟩ : i64ok 5) (⟨by decide, by decide⟩ : i64ok 7) with id := ⟨by decide, by decide⟩ }
theorem liveC_right : RightC liveC := by decide
theorem liveC_bytes : cmdB liveC = [5, 14, 6] := by
  have h1 : numB 5 = [5] := numB_lt (by decide)
  have h2 : intB 7 = [14] := numB_lt (by decide)
  have h3 : intB 3 = [6] := numB_lt (by decide)
  show numB 5 ++ (intB 7 ++ intsB [3]) = _
  rw [h1, h2]
  show [5] ++ ([14] ++ [intB 3].flatten) = _
  rw [h3]
  rfl
def liveR : ReplyM := ⟨0, [], 0, 0, 0, 0, false, ⟨0, 0, 0, false, false, false, false, 0, 0, 0, 0, 0, 0⟩, []⟩
theorem liveR_ok : liveR.ok := ⟨ok0, (by nofun), ok0, ok0, ok0, ok0, ⟨ok0, ok0, ok0, ok0, ok0, ok0, ok0, ok0, (by decide : 0 < 256)⟩⟩
theorem liveR_len : (replyB liveR).length = 17 := by
  have h0 : numB 0 = [0] := numB_lt (by decide)
  have h1 : intB 0 = [0] := h0
  have h2 : ∀ l : List Int, (∀ z ∈ l, z = 0) → (intsB l).length = l.length := by
    intro l
    induction l with
    | nil => intro _; rfl
    | cons z l ih =>
      intro hz
      rw [hz z List.mem_cons_self]
      show (intB 0 ++ intsB l).length = _
      rw [h1, List.length_append, ih fun y hy => hz y (List.mem_cons_of_mem _ hy), List.length_cons]; simp; omega
  have a1 := h2 [0] (by simp)
  have a2 := h2 [0, 0, 0, 0] (by simp)
  have a3 := h2 [0, 0, 0, 0, 0, 0, 0] (by simp)
  have e : replyB liveR = intsB [0] ++ (numB 0 ++ (intsB [] ++ (intsB [0, 0, 0, 0] ++ (numB 0 ++ (intsB [0, 0, 0, 0, 0, 0, 0] ++ (numB 0 ++ ((numB 0 ++ []) ++ (numB 0 ++ [])))))))) := rfl
  rw [e, h0]
  simp only [List.length_append, a1, a2, a3, List.length_cons, List.length_nil]
  rfl
set_option maxRecDepth 8000 in
set_option maxHeartbeats 4000000 in
theorem lives_spec {w : World} : Cl Tryd.prog f_tarmaclaw23_lives [] w fun v w' => v = .bool true ∧ St w [] [] w' := by
  have hS := St.start w
  have hA : ArgC w liveC none 0 := ⟨⟨Arr.nil _ _ _, Nat.le_refl _⟩, liveC_ok, Nat.zero_le _, Nat.zero_le _, by nofun⟩
  have hR : ArgR w liveR none 0 := ⟨Arr.nil _ _ _, liveR_ok, Nat.zero_le _, Nat.zero_le _⟩
  have hrl := liveR_len
  have hfl := frameB_len (replyB liveR)
  refine en_tarmaclaw23_lives rfl ?_
  repeat (first | refine SemW.run tblOk ?_ | refine jA (by omega) ?_ | refine jB (by omega) ?_ | refine jC (by omega) ?_ | refine jD (by omega) ?_ | refine jE rfl ?_ | refine jF (by omega) ?_ | (refine jG ?_; first | with_reducible (first | refine jH ?_ | refine jI ?_ | refine jJ ?_ | refine jK ?_ | refine jL ?_) | refine jM (by omega) ?_ | refine jN (by omega) ?_ | with_reducible refine jM rfl ?_ | refine jM (by assumption) ?_ | refine jN (by assumption) ?_ | refine jM (by decide) ?_ | refine jN (by decide) ?_) | refine jF (ptr_ok tblOk rfl rfl) ?_ | refine jO (fun _ => by kernel_rfl) ?_ | refine jF (by decide) ?_)
  refine Cl.mono (Command_spec hA) ?_
  rintro _ w1 ⟨rfl, hS'⟩
  have hS := hS.call0 hS'
  clear hA
  unfold cmdO
  rw [if_pos liveC_right, liveC_bytes]
  repeat (first | refine SemW.run tblOk ?_ | refine jA (by omega) ?_ | refine jB (by omega) ?_ | refine jC (by omega) ?_ | refine jD (by omega) ?_ | refine jE rfl ?_ | refine jF (by omega) ?_ | (refine jG ?_; first | with_reducible (first | refine jH ?_ | refine jI ?_ | refine jJ ?_ | refine jK ?_ | refine jL ?_) | refine jM (by omega) ?_ | refine jN (by omega) ?_ | with_reducible refine jM rfl ?_ | refine jM (by assumption) ?_ | refine jN (by assumption) ?_ | refine jM (by decide) ?_ | refine jN (by decide) ?_) | refine jF (ptr_ok tblOk rfl rfl) ?_ | refine jO (fun _ => by kernel_rfl) ?_ | refine jF (by decide) ?_)
  refine hS.al ?_
  intro q w2 _ hS
  repeat (first | refine SemW.run tblOk ?_ | refine jA (by omega) ?_ | refine jB (by omega) ?_ | refine jC (by omega) ?_ | refine jD (by omega) ?_ | refine jE rfl ?_ | refine jF (by omega) ?_ | (refine jG ?_; first | with_reducible (first | refine jH ?_ | refine jI ?_ | refine jJ ?_ | refine jK ?_ | refine jL ?_) | refine jM (by omega) ?_ | refine jN (by omega) ?_ | with_reducible refine jM rfl ?_ | refine jM (by assumption) ?_ | refine jN (by assumption) ?_ | refine jM (by decide) ?_ | refine jN (by decide) ?_) | refine jF (ptr_ok tblOk rfl rfl) ?_ | refine jO (fun _ => by kernel_rfl) ?_ | refine jF (by decide) ?_)
  refine Cl.mono (Seal_spec (ps := [[5, 14, 6]]) (by decide) (hS.arr (b := q) (by simp))) ?_
  rintro _ w3 ⟨rfl, hS'⟩
  have hS := hS.call0 hS'
  rw [if_pos (by decide), sealB_one]
  repeat (first | refine SemW.run tblOk ?_ | refine jA (by omega) ?_ | refine jB (by omega) ?_ | refine jC (by omega) ?_ | refine jD (by omega) ?_ | refine jE rfl ?_ | refine jF (by omega) ?_ | (refine jG ?_; first | with_reducible (first | refine jH ?_ | refine jI ?_ | refine jJ ?_ | refine jK ?_ | refine jL ?_) | refine jM (by omega) ?_ | refine jN (by omega) ?_ | with_reducible refine jM rfl ?_ | refine jM (by assumption) ?_ | refine jN (by assumption) ?_ | refine jM (by decide) ?_ | refine jN (by decide) ?_) | refine jF (ptr_ok tblOk rfl rfl) ?_ | refine jO (fun _ => by kernel_rfl) ?_ | refine jF (by decide) ?_)
  refine Cl.mono (Reply_spec (hR.keep hS.nil)) ?_
  rintro _ w4 ⟨rfl, hS'⟩
  have hS := hS.call0 hS'
  unfold repOut
  rw [if_pos ⟨rfl, by omega⟩]
  repeat (first | refine SemW.run tblOk ?_ | refine jA (by omega) ?_ | refine jB (by omega) ?_ | refine jC (by omega) ?_ | refine jD (by omega) ?_ | refine jE rfl ?_ | refine jF (by omega) ?_ | (refine jG ?_; first | with_reducible (first | refine jH ?_ | refine jI ?_ | refine jJ ?_ | refine jK ?_ | refine jL ?_) | refine jM (by omega) ?_ | refine jN (by omega) ?_ | with_reducible refine jM rfl ?_ | refine jM (by assumption) ?_ | refine jN (by assumption) ?_ | refine jM (by decide) ?_ | refine jN (by decide) ?_) | refine jF (ptr_ok tblOk rfl rfl) ?_ | refine jO (fun _ => by kernel_rfl) ?_ | refine jF (by decide) ?_)
  exact ⟨by rw [decide_eq_true (by omega)], hS.nil⟩
end Go.Proofs.YthpmmfapolcaiaaDoor

/- Rows, passengers handed in, opened. -/
namespace Go.Proofs.YthpmmfapolcaiaaDoor
open Go Go.Eng Go.Proofs
open Go.ChangeShapes Go.WideShapes Go.ChangeAt Go.RowKit

theorem opens_row : Opens Tryd.prog T_api_Row RRow (fun r => r.seats.length + 6) := by
  refine Opens.map (Opens.struct (sz := 5) Tryd.underlying38 (by kernel_rfl) (OpensFs.cons (s := 1) rfl (by kernel_rfl) (Opens.int Tryd.underlying3) (OpensFs.cons (s := 1) rfl (by kernel_rfl) (Opens.int Tryd.underlying3) (OpensFs.cons (s := 1) rfl (by kernel_rfl) (Opens.int Tryd.underlying3)
    (OpensFs.cons (s := 1) rfl (by kernel_rfl) (Opens.bool Tryd.underlying4) (OpensFs.cons (s := 1) rfl (by kernel_rfl) (Opens.str Tryd.underlying9) OpensFs.nil)))))) (fun x => ⟨x.1, x.2.1, x.2.2.1, x.2.2.2.1, x.2.2.2.2.1⟩) ?_ (fun x => by (try simp only); omega)
  intro W cs x h
  obtain ⟨e1, w1, h⟩ := pair_int h
  obtain ⟨e2, w2, h⟩ := pair_int h
  obtain ⟨e3, w3, h⟩ := pair_int h
  obtain ⟨e4, h⟩ := pair_bool h
  obtain ⟨e5, h⟩ := pair_str h
  have h : (((((cs.drop 1).drop 1).drop 1).drop 1).drop 1) = [] := h
  rw [h] at e5; rw [e5] at e4; rw [e4] at e3; rw [e3] at e2; rw [e2] at e1
  exact ⟨e1, wf_i64b w1, wf_i64b w2, wf_i64b w3⟩
theorem len4 {α : Type} {cs : List α} (h : cs.length = 4) : ∃ a b c d, cs = [a, b, c, d] := by
  match cs, h with
  | [a, b, c, d], _ => exact ⟨a, b, c, d, rfl⟩
def RInts4 : CellR (Int × Int × Int × Int) := fun _ cs x => cs = [.int .i64 x.1, .int .i64 x.2.1, .int .i64 x.2.2.1, .int .i64 x.2.2.2] ∧ i64b x.1 ∧ i64b x.2.1 ∧ i64b x.2.2.1 ∧ i64b x.2.2.2
theorem Opens.ints4 {P : Program} {t e : TypeId} (ht : P.underlying t = some (.array 4 e)) (he : P.underlying e = some (.int .i64)) (hce : P.cellsOf e = 1) (hct : P.cellsOf t = 4) : Opens P t RInts4 (fun _ => 4) := by
  refine ⟨fun {H enc W fuel cs x} h => ?_⟩
  obtain ⟨xs, n, -, rfl, hl, hxl, hx⟩ := DataW.trod_array ht h
  rw [hct] at hl
  rw [hce] at hx
  obtain ⟨a, b, c, d, rfl⟩ := len4 hl
  have g : ∀ i v, i < 4 → ([a, b, c, d] : List Value)[i]? = some v → ∃ z, v = .int .i64 z ∧ i64b z ∧ (xs[i]?).map (fun y => Rows.uptoBulk y.1) = some 1 := by
    intro i v hi hv
    have h1 := hx i hi
    have h2 : ((([a, b, c, d] : List Value).drop (i * 1)).take 1) = [v] := by
      rw [Nat.mul_one]
      match i, hi with
      | 0, _ => simpa using hv
      | 1, _ => simpa using hv
      | 2, _ => simpa using hv
      | 3, _ => simpa using hv
    rw [h2] at h1
    rw [List.getElem?_eq_getElem (show i < xs.length by omega)] at h1
    obtain ⟨z, h3, h4, h5⟩ := DataW.trod_int he h1
    refine ⟨z, by simpa using h3, wf_i64b h5, ?_⟩
    rw [List.getElem?_eq_getElem (show i < xs.length by omega), h4]; rfl
  obtain ⟨z0, rfl, w0, b0⟩ := g 0 a (by omega) rfl
  obtain ⟨z1, rfl, w1, b1⟩ := g 1 b (by omega) rfl
  obtain ⟨z2, rfl, w2, b2⟩ := g 2 c (by omega) rfl
  obtain ⟨z3, rfl, w3, b3⟩ := g 3 d (by omega) rfl
  refine ⟨(z0, z1, z2, z3), ⟨rfl, w0, w1, w2, w3⟩, ?_⟩
  obtain ⟨x0, x1, x2, x3, rfl⟩ := len4 hxl
  simp only [List.getElem?_cons_zero, List.getElem?_cons_succ, Option.map_some, Option.some.injEq] at b0 b1 b2 b3
  simp only [List.map_cons, List.map_nil, Rows.uptoBulk, Rows.uptoBulkAll]
  omega
theorem pair_ints4 {β : Type} {S : CellR β} {W : World} {cs : List Value} {x : (Int × Int × Int × Int) × β} (h : RPair 4 RInts4 S W cs x) : cs = .int .i64 x.1.1 :: .int .i64 x.1.2.1 :: .int .i64 x.1.2.2.1 :: .int .i64 x.1.2.2.2 :: cs.drop 4 ∧ (i64b x.1.1 ∧ i64b x.1.2.1 ∧ i64b x.1.2.2.1 ∧ i64b x.1.2.2.2) ∧ S W (cs.drop 4) x.2 := by
  refine ⟨?_, h.1.2, h.2⟩
  conv => lhs; rw [← List.take_append_drop 4 cs, h.1.1]
  rfl
theorem takeN {n : Nat} {cs l : List Value} (h : cs.take n = l) : cs = l ++ cs.drop n := by rw [← h, List.take_append_drop]
def RWho : CellR (Int × Bool × Bool) := fun _ cs x => cs = [.int .i64 x.1, .bool x.2.1, .bool x.2.2] ∧ i64b x.1
theorem opens_who : Opens Tryd.prog T_api_Who RWho (fun _ => 4) := by
  refine Opens.map (Opens.struct (sz := 3) Tryd.underlying23 (by kernel_rfl) (OpensFs.cons (s := 1) rfl (by kernel_rfl) (Opens.int Tryd.underlying3) (OpensFs.cons (s := 1) rfl (by kernel_rfl) (Opens.bool Tryd.underlying4) (OpensFs.cons (s := 1) rfl (by kernel_rfl) (Opens.bool Tryd.underlying4) OpensFs.nil)))) (fun x => (x.1, x.2.1, x.2.2.1)) ?_ (fun x => by (try simp only); omega)
  intro W cs x h
  obtain ⟨e1, w1, h⟩ := pair_int h
  obtain ⟨e2, h⟩ := pair_bool h
  obtain ⟨e3, h⟩ := pair_bool h
  have h : (((cs.drop 1).drop 1).drop 1) = [] := h
  rw [h] at e3; rw [e3] at e2; rw [e2] at e1
  exact ⟨e1, wf_i64b w1⟩
def RSeatC : CellR (Int × Nat) := fun _ cs x => cs = [.int .i64 x.1, .int .u8 x.2] ∧ i64b x.1 ∧ x.2 < 256
theorem opens_seatC : Opens Tryd.prog T_api_Seat RSeatC (fun _ => 3) := by
  refine Opens.map (Opens.struct (sz := 2) Tryd.underlying25 (by kernel_rfl) (OpensFs.cons (s := 1) rfl (by kernel_rfl) (Opens.int Tryd.underlying3) (OpensFs.cons (s := 1) rfl (by kernel_rfl) (Opens.int Tryd.underlying5) OpensFs.nil))) (fun x => (x.1, x.2.1.toNat)) ?_ (fun x => by (try simp only); omega)
  intro W cs x h
  obtain ⟨e1, w1, h⟩ := pair_int h
  obtain ⟨e2, w2, h⟩ := pair_int h
  have h : ((cs.drop 1).drop 1) = [] := h
  rw [h] at e2; rw [e2] at e1
  have hw := wf_u8b w2
  refine ⟨?_, wf_i64b w1, by simp only; omega⟩
  simp only
  rw [show ((x.2.1.toNat : Nat) : Int) = x.2.1 by omega]; exact e1
theorem opens_pax : Opens Tryd.prog T_api_Pax RPax (fun _ => 14) := by
  refine Opens.map (Opens.struct (sz := 13) Tryd.underlying42 (by kernel_rfl) (OpensFs.cons (s := 1) rfl (by kernel_rfl) (Opens.int Tryd.underlying3) (OpensFs.cons (s := 1) rfl (by kernel_rfl) (Opens.int Tryd.underlying3) (OpensFs.cons (s := 3) rfl (by kernel_rfl) opens_who
    (OpensFs.cons (s := 1) rfl (by kernel_rfl) (Opens.bool Tryd.underlying4) (OpensFs.cons (s := 1) rfl (by kernel_rfl) (Opens.bool Tryd.underlying4) (OpensFs.cons (s := 1) rfl (by kernel_rfl) (Opens.int Tryd.underlying3) (OpensFs.cons (s := 1) rfl (by kernel_rfl) (Opens.int Tryd.underlying3)
    (OpensFs.cons (s := 1) rfl (by kernel_rfl) (Opens.int Tryd.underlying3) (OpensFs.cons (s := 1) rfl (by kernel_rfl) (Opens.int Tryd.underlying3) (OpensFs.cons (s := 2) rfl (by kernel_rfl) opens_seatC OpensFs.nil)))))))))))
    (fun x => ⟨x.1, x.2.1, x.2.2.1.1, x.2.2.1.2.1, x.2.2.1.2.2, x.2.2.2.1, x.2.2.2.2.1, x.2.2.2.2.2.1, x.2.2.2.2.2.2.1, x.2.2.2.2.2.2.2.1, x.2.2.2.2.2.2.2.2.1, x.2.2.2.2.2.2.2.2.2.1.1, x.2.2.2.2.2.2.2.2.2.1.2⟩) ?_ (fun x => by (try simp only); omega)
  intro W cs x h
  obtain ⟨e1, w1, h⟩ := pair_int h
  obtain ⟨e2, w2, h⟩ := pair_int h
  obtain ⟨⟨e3, w3⟩, h⟩ := h
  have e3 := takeN e3
  obtain ⟨e4, h⟩ := pair_bool h
  obtain ⟨e5, h⟩ := pair_bool h
  obtain ⟨e6, w6, h⟩ := pair_int h
  obtain ⟨e7, w7, h⟩ := pair_int h
  obtain ⟨e8, w8, h⟩ := pair_int h
  obtain ⟨e9, w9, h⟩ := pair_int h
  obtain ⟨⟨e10, w10, w11⟩, h⟩ := h
  have e10 := takeN e10
  have h : (((((((((((cs.drop 1).drop 1).drop 3).drop 1).drop 1).drop 1).drop 1).drop 1).drop 1).drop 2)) = [] := h
  rw [h] at e10; rw [e10] at e9; rw [e9] at e8; rw [e8] at e7; rw [e7] at e6; rw [e6] at e5; rw [e5] at e4; rw [e4] at e3; rw [e3] at e2; rw [e2] at e1
  exact ⟨e1, wf_i64b w1, wf_i64b w2, w3, wf_i64b w6, wf_i64b w7, wf_i64b w8, wf_i64b w9, w10, w11⟩
end Go.Proofs.YthpmmfapolcaiaaDoor

/- Commands and replies handed in, opened. -/
namespace Go.Proofs.YthpmmfapolcaiaaDoor
open Go Go.Eng Go.Proofs
open Go.ChangeShapes Go.WideShapes Go.ChangeAt Go.RowKit
def RCmd : CellR CmdM := fun W cs c => ∃ v, cs = [.int .i64 c.kind, .int .i64 c.req, .int .i64 c.id, .int .i64 c.fl, .int .i64 c.eq, .int .i64 c.cls, .int .i64 c.wcab, .bool c.fit, .bool c.inf, .bool c.vol, .bool c.stb, .int .i64 c.num, .int .u8 c.lt, v, .int .i64 c.l0, .int .i64 c.l1, .int .i64 c.l2, .int .i64 c.l3, Str c.text] ∧ RSl 5 RRow W [v] c.rows ∧ (∀ rs, c.rows = rs → (∀ r ∈ rs, r.ok) → c.ok)
theorem opens_cmd : Opens Tryd.prog T_api_Command RCmd (fun c => (c.rows.map fun r => r.seats.length + 6).sum + c.text.length + 3) := by
  refine Opens.map (Opens.struct (sz := 19) Tryd.underlying29 (by kernel_rfl) (OpensFs.cons (s := 1) rfl (by kernel_rfl) (Opens.int Tryd.underlying3) (OpensFs.cons (s := 1) rfl (by kernel_rfl) (Opens.int Tryd.underlying3) (OpensFs.cons (s := 1) rfl (by kernel_rfl) (Opens.int Tryd.underlying3)
    (OpensFs.cons (s := 1) rfl (by kernel_rfl) (Opens.int Tryd.underlying3) (OpensFs.cons (s := 1) rfl (by kernel_rfl) (Opens.int Tryd.underlying3) (OpensFs.cons (s := 1) rfl (by kernel_rfl) (Opens.int Tryd.underlying3) (OpensFs.cons (s := 3) rfl (by kernel_rfl) opens_who
    (OpensFs.cons (s := 1) rfl (by kernel_rfl) (Opens.bool Tryd.underlying4) (OpensFs.cons (s := 1) rfl (by kernel_rfl) (Opens.bool Tryd.underlying4) (OpensFs.cons (s := 2) rfl (by kernel_rfl) opens_seatC
    (OpensFs.cons (s := 1) rfl (by kernel_rfl) (Opens.slice Tryd.underlying26 (show Tryd.prog.cellsOf T_api_Row = 5 by kernel_rfl) (by decide) opens_row) (OpensFs.cons (s := 4) rfl (by kernel_rfl) (Opens.ints4 Tryd.underlying27 Tryd.underlying3 (by kernel_rfl) (by kernel_rfl))
    (OpensFs.cons (s := 1) rfl (by kernel_rfl) (Opens.str Tryd.underlying9) OpensFs.nil))))))))))))))
    (fun x => ⟨x.1, x.2.1, x.2.2.1, x.2.2.2.1, x.2.2.2.2.1, x.2.2.2.2.2.1, x.2.2.2.2.2.2.1.1, x.2.2.2.2.2.2.1.2.1, x.2.2.2.2.2.2.1.2.2, x.2.2.2.2.2.2.2.1, x.2.2.2.2.2.2.2.2.1, x.2.2.2.2.2.2.2.2.2.1.1, x.2.2.2.2.2.2.2.2.2.1.2, x.2.2.2.2.2.2.2.2.2.2.1,
      x.2.2.2.2.2.2.2.2.2.2.2.1.1, x.2.2.2.2.2.2.2.2.2.2.2.1.2.1, x.2.2.2.2.2.2.2.2.2.2.2.1.2.2.1, x.2.2.2.2.2.2.2.2.2.2.2.1.2.2.2, x.2.2.2.2.2.2.2.2.2.2.2.2.1⟩) ?_ (fun x => by (try simp only); omega)
  intro W cs x h
  obtain ⟨e1, w1, h⟩ := pair_int h
  obtain ⟨e2, w2, h⟩ := pair_int h
  obtain ⟨e3, w3, h⟩ := pair_int h
  obtain ⟨e4, w4, h⟩ := pair_int h
  obtain ⟨e5, w5, h⟩ := pair_int h
  obtain ⟨e6, w6, h⟩ := pair_int h
  obtain ⟨⟨e7, w7⟩, h⟩ := h
  have e7 := takeN e7
  obtain ⟨e8, h⟩ := pair_bool h
  obtain ⟨e9, h⟩ := pair_bool h
  obtain ⟨⟨e10, w10, w11⟩, h⟩ := h
  have e10 := takeN e10
  obtain ⟨v, e11, hr, h⟩ := pair_sl h
  obtain ⟨e12, ⟨w12, w13, w14, w15⟩, h⟩ := pair_ints4 h
  obtain ⟨e13, h⟩ := pair_str h
  have h : (((((((((((((cs.drop 1).drop 1).drop 1).drop 1).drop 1).drop 1).drop 3).drop 1).drop 1).drop 2).drop 1).drop 4).drop 1) = [] := h
  rw [h] at e13; rw [e13] at e12; rw [e12] at e11; rw [e11] at e10; rw [e10] at e9; rw [e9] at e8; rw [e8] at e7; rw [e7] at e6; rw [e6] at e5; rw [e5] at e4; rw [e4] at e3; rw [e3] at e2; rw [e2] at e1
  exact ⟨v, e1, hr, fun rs hrs hall => ⟨wf_i64b w1, wf_i64b w2, wf_i64b w3, wf_i64b w4, wf_i64b w5, wf_i64b w6, w7, w10, w11, (by rw [hrs]; exact hall), w12, w13, w14, w15⟩⟩
theorem rsl_rows {W : World} {a : Option Addr} {cap : Nat} {rs : List RowM} (h : RSl 5 RRow W [.slice a rs.length cap] rs) : RowsAt W a cap rs ∧ ∀ r ∈ rs, r.ok := by
  refine ⟨⟨fun j v hj => ?_, ?_⟩, fun r hr => ?_⟩
  · have hl := flatRow_len rs
    have hjl := (List.getElem?_eq_some_iff.1 hj).1
    have hk : j / 5 < rs.length := by omega
    obtain ⟨b, off, cs, h1, h2, h3, h4, -⟩ := h.at hk
    refine ⟨b, off, h1, by simp, ?_⟩
    have := h3 (j % 5) v (by rw [h4, ← flatRow_at rs (j / 5) hk (j % 5) (by omega), show j / 5 * 5 + j % 5 = j by omega]; exact hj)
    rw [show j / 5 * 5 + j % 5 = j by omega] at this
    exact this
  · obtain ⟨a', cap', h1, h2, -⟩ := h.ex
    have : cap = cap' := by simpa using (List.cons.inj h1).1 |> fun h => (Value.slice.inj h).2.2
    omega
  · obtain ⟨i, hi, rfl⟩ := List.mem_iff_getElem.1 hr
    obtain ⟨b, off, cs, -, -, -, -, h5⟩ := h.at hi
    exact h5
theorem seats_sum {rs : List RowM} : ∀ r ∈ rs, r.seats.length + 6 ≤ (rs.map fun r => r.seats.length + 6).sum := fun r hr => by
  obtain ⟨i, hi, rfl⟩ := List.mem_iff_getElem.1 hr
  exact rowsW_at rs i hi
theorem open_cmdAt {H : Type} {enc : TypeId × Value → H} {W : World} {v : Value} {d : DataW H} {p : List MemPlace} (hd : DataW.Trod enc Tryd.prog W 0 (fun _ => true) true T_api_Command v d p) :
    ∃ (c : CmdM) (a : Option Addr) (cap : Nat), v = cmdV c a cap ∧ (Rows.uptoBulk d ≤ 1048576 → ArgC W c a cap) := by
  obtain ⟨c, ⟨u, hcs, h1, hok⟩, hb⟩ := Trod.out hd opens_cmd
  obtain ⟨a, cap, rfl, -, -, h1⟩ := h1.inv
  obtain ⟨hR, hall⟩ := rsl_rows h1
  refine ⟨c, a, cap, ?_, fun hB => ⟨hR, hok _ rfl hall, ?_, by omega, fun r hr => ?_⟩⟩
  · cases v with
    | agg cs => cases cs; simp only [Value.cells] at hcs; rw [hcs]
    | _ => simp [Value.cells] at hcs
  · have := rowsW_len c.rows
    unfold rowsW at this
    omega
  · have := seats_sum (rs := c.rows) r hr
    omega
def RReply : CellR ReplyM := fun W cs r => ∃ v, cs = [.int .i64 r.code, v, .int .i64 r.n0, .int .i64 r.n1, .int .i64 r.n2, .int .i64 r.n3, .bool r.over, .int .i64 r.pax.id, .int .i64 r.pax.flight, .int .i64 r.pax.cab, .bool r.pax.fit, .bool r.pax.infant, .bool r.pax.vol, .bool r.pax.stb, .int .i64 r.pax.cls, .int .i64 r.pax.status, .int .i64 r.pax.tick, .int .i64 r.pax.pass, .int .i64 r.pax.num, .int .u8 r.pax.c, Str r.text] ∧ RSl 1 (RInt .i64) W [v] r.ids ∧ ((∀ z ∈ r.ids, i64ok z) → r.ok)
theorem opens_reply : Opens Tryd.prog T_api_Reply RReply (fun r => r.ids.length + r.text.length) := by
  have hc : ∀ (l : List Int), (l.map fun _ => 1).sum = l.length := fun l => by
    induction l with
    | nil => rfl
    | cons a l ih => simp only [List.map_cons, List.sum_cons, List.length_cons, ih]; omega
  refine Opens.map (Opens.struct (sz := 21) Tryd.underlying44 (by kernel_rfl) (OpensFs.cons (s := 1) rfl (by kernel_rfl) (Opens.int Tryd.underlying31) (OpensFs.cons (s := 1) rfl (by kernel_rfl) (Opens.slice Tryd.underlying40 (show Tryd.prog.cellsOf T_int = 1 by kernel_rfl) (by decide) (Opens.int Tryd.underlying3))
    (OpensFs.cons (s := 4) rfl (by kernel_rfl) (Opens.ints4 Tryd.underlying27 Tryd.underlying3 (by kernel_rfl) (by kernel_rfl)) (OpensFs.cons (s := 1) rfl (by kernel_rfl) (Opens.bool Tryd.underlying4) (OpensFs.cons (s := 13) rfl (by kernel_rfl) opens_pax
    (OpensFs.cons (s := 1) rfl (by kernel_rfl) (Opens.str Tryd.underlying9) OpensFs.nil)))))))
    (fun x => ⟨x.1, x.2.1, x.2.2.1.1, x.2.2.1.2.1, x.2.2.1.2.2.1, x.2.2.1.2.2.2, x.2.2.2.1, x.2.2.2.2.1, x.2.2.2.2.2.1⟩) ?_ (fun x => by simp only [hc]; omega)
  intro W cs x h
  obtain ⟨e1, w1, h⟩ := pair_int h
  obtain ⟨v, e2, hr, h⟩ := pair_sl h
  obtain ⟨e3, ⟨w3, w4, w5, w6⟩, h⟩ := pair_ints4 h
  obtain ⟨e4, h⟩ := pair_bool h
  obtain ⟨⟨e5, w7⟩, h⟩ := h
  have e5 := takeN e5
  obtain ⟨e6, h⟩ := pair_str h
  have h : ((((((cs.drop 1).drop 1).drop 4).drop 1).drop 13).drop 1) = [] := h
  rw [h] at e6; rw [e6] at e5; rw [e5] at e4; rw [e4] at e3; rw [e3] at e2; rw [e2] at e1
  exact ⟨v, e1, hr, fun hids => ⟨wf_i64b w1, hids, w3, w4, w5, w6, w7⟩⟩
theorem rsl_ints {W : World} {a : Option Addr} {cap : Nat} {l : List Int} (h : RSl 1 (RInt .i64) W [.slice a l.length cap] l) : Arr W [] a (l.map intV) ∧ ∀ z ∈ l, i64ok z := by
  refine ⟨fun j v hj => ?_, fun z hz => ?_⟩
  · rw [List.getElem?_map] at hj
    have hk : j < l.length := by
      cases e : l[j]? with
      | none => rw [e] at hj; cases hj
      | some z => exact (List.getElem?_eq_some_iff.1 e).1
    rw [List.getElem?_eq_getElem hk] at hj
    obtain ⟨b, off, cs, h1, h2, h3, h4⟩ := h.at hk
    refine ⟨b, off, h1, by simp, ?_⟩
    have h5 := h3 0 v (by rw [h4.1]; exact hj)
    rwa [Nat.mul_one, Nat.add_zero] at h5
  · obtain ⟨i, hi, rfl⟩ := List.mem_iff_getElem.1 hz
    obtain ⟨b, off, cs, -, -, -, h4⟩ := h.at hi
    exact wf_i64b h4.2
theorem open_repAt {H : Type} {enc : TypeId × Value → H} {W : World} {v : Value} {d : DataW H} {p : List MemPlace} (hd : DataW.Trod enc Tryd.prog W 0 (fun _ => true) true T_api_Reply v d p) :
    ∃ (r : ReplyM) (a : Option Addr) (cap : Nat), v = .agg ⟨replyC r a cap⟩ ∧ (Rows.uptoBulk d ≤ 1048576 → ArgR W r a cap) := by
  obtain ⟨r, ⟨u, hcs, h1, hok⟩, hb⟩ := Trod.out hd opens_reply
  obtain ⟨a, cap, rfl, -, -, h1⟩ := h1.inv
  obtain ⟨hR, hall⟩ := rsl_ints h1
  refine ⟨r, a, cap, ?_, fun hB => ⟨hR, hok hall, by omega, by omega⟩⟩
  cases v with
  | agg cs => cases cs; simp only [Value.cells] at hcs; rw [hcs]
  | _ => simp [Value.cells] at hcs
end Go.Proofs.YthpmmfapolcaiaaDoor

/- tarmaclaw23.WireUnlike. -/
namespace Go.Proofs.YthpmmfapolcaiaaDoor
open Go Go.Eng Go.Proofs
theorem ArgC.keep {w0 w : World} {H : Heap} (hS : St w0 [] H w) {c : CmdM} {a : Option Addr} {cap : Nat} (h : ArgC w0 c a cap) : ArgC w c a cap := ⟨h.rows.keep hS, h.ok, h.nr, h.nt, h.ns⟩
theorem right_len {c : CmdM} (hok : c.ok) (h : RightC c) : (cmdB c).length ≤ 65536 := cmdB_len hok h.2.2.1 h.2.1
theorem wire_inj {c d : CmdM} (hc : c.ok) (hd : d.ok) (h1 : RightC c) (h2 : RightC d) : frameB (cmdB c) = frameB (cmdB d) ↔ c = d := by
  have l1 := right_len hc h1
  have l2 := right_len hd h2
  constructor
  · intro h
    have e := frameB_inj l1 l2 h
    have e1 := (cmdS_iff (t := cmdB c) (by omega)).2 ⟨rfl, hc, h1⟩
    have e2 := (cmdS_iff (t := cmdB d) (by omega)).2 ⟨rfl, hd, h2⟩
    rw [e, e2] at e1
    exact (Option.some.inj e1).symm
  · rintro rfl; rfl
set_option maxRecDepth 4000 in
set_option maxHeartbeats 4000000 in
theorem WireUnlike_spec {w : World} {c d : CmdM} {a b : Option Addr} {ca cb : Nat} (hc : ArgC w c a ca) (hd : ArgC w d b cb) :
    Cl Tryd.prog f_tarmaclaw23_WireUnlike [cmdV c a ca, cmdV d b cb] w fun v w' => v = .bool true ∧ St w [] [] w' := by
  have hS := St.start w
  have hcl := right_len (c := c) hc.ok
  have hdl := right_len (c := d) hd.ok
  have hinj := wire_inj (c := c) (d := d) hc.ok hd.ok
  refine en_tarmaclaw23_WireUnlike rfl ?_
  repeat (first | refine SemW.run tblOk ?_ | refine jA (by omega) ?_ | refine jB (by omega) ?_ | refine jC (by omega) ?_ | refine jD (by omega) ?_ | refine jE rfl ?_ | refine jF (by omega) ?_ | (refine jG ?_; first | with_reducible (first | refine jH ?_ | refine jI ?_ | refine jJ ?_ | refine jK ?_ | refine jL ?_) | refine jM (by omega) ?_ | refine jN (by omega) ?_ | with_reducible refine jM rfl ?_ | refine jM (by assumption) ?_ | refine jN (by assumption) ?_ | refine jM (by decide) ?_ | refine jN (by decide) ?_) | refine jF (ptr_ok tblOk rfl rfl) ?_ | refine jO (fun _ => by kernel_rfl) ?_ | refine jF (by decide) ?_)
  refine hS.al ?_
  intro b1 w1 _ hS
  repeat (first | refine SemW.run tblOk ?_ | refine jA (by omega) ?_ | refine jB (by omega) ?_ | refine jC (by omega) ?_ | refine jD (by omega) ?_ | refine jE rfl ?_ | refine jF (by omega) ?_ | (refine jG ?_; first | with_reducible (first | refine jH ?_ | refine jI ?_ | refine jJ ?_ | refine jK ?_ | refine jL ?_) | refine jM (by omega) ?_ | refine jN (by omega) ?_ | with_reducible refine jM rfl ?_ | refine jM (by assumption) ?_ | refine jN (by assumption) ?_ | refine jM (by decide) ?_ | refine jN (by decide) ?_) | refine jF (ptr_ok tblOk rfl rfl) ?_ | refine jO (fun _ => by kernel_rfl) ?_ | refine jF (by decide) ?_)
  refine hS.al ?_
  intro b2 w2 _ hS
  repeat (first | refine SemW.run tblOk ?_ | refine jA (by omega) ?_ | refine jB (by omega) ?_ | refine jC (by omega) ?_ | refine jD (by omega) ?_ | refine jE rfl ?_ | refine jF (by omega) ?_ | (refine jG ?_; first | with_reducible (first | refine jH ?_ | refine jI ?_ | refine jJ ?_ | refine jK ?_ | refine jL ?_) | refine jM (by omega) ?_ | refine jN (by omega) ?_ | with_reducible refine jM rfl ?_ | refine jM (by assumption) ?_ | refine jN (by assumption) ?_ | refine jM (by decide) ?_ | refine jN (by decide) ?_) | refine jF (ptr_ok tblOk rfl rfl) ?_ | refine jO (fun _ => by kernel_rfl) ?_ | refine jF (by decide) ?_ | refine hS.ld rfl ?_ | refine hS.ldn rfl ?_ | (refine hS.st rfl rfl ?_; intro _ hS))
  refine Cl.mono lives_spec ?_
  rintro _ w3 ⟨rfl, hS'⟩
  have hS := hS.call0 hS'
  repeat (first | refine SemW.run tblOk ?_ | refine jA (by omega) ?_ | refine jB (by omega) ?_ | refine jC (by omega) ?_ | refine jD (by omega) ?_ | refine jE rfl ?_ | refine jF (by omega) ?_ | (refine jG ?_; first | with_reducible (first | refine jH ?_ | refine jI ?_ | refine jJ ?_ | refine jK ?_ | refine jL ?_) | refine jM (by omega) ?_ | refine jN (by omega) ?_ | with_reducible refine jM rfl ?_ | refine jM (by assumption) ?_ | refine jN (by assumption) ?_ | refine jM (by decide) ?_ | refine jN (by decide) ?_) | refine jF (ptr_ok tblOk rfl rfl) ?_ | refine jO (fun _ => by kernel_rfl) ?_ | refine jF (by decide) ?_ | refine hS.ld rfl ?_ | refine hS.ldn rfl ?_ | (refine hS.st rfl rfl ?_; intro _ hS))
  refine Cl.mono (Command_spec (hc.keep hS.nil)) ?_
  rintro _ w4 ⟨rfl, hS'⟩
  have hS := hS.call0 hS'
  unfold cmdO
  by_cases hrc : RightC c
  rotate_left
  · rw [if_neg hrc]
    repeat (first | refine SemW.run tblOk ?_ | refine jA (by omega) ?_ | refine jB (by omega) ?_ | refine jC (by omega) ?_ | refine jD (by omega) ?_ | refine jE rfl ?_ | refine jF (by omega) ?_ | (refine jG ?_; first | with_reducible (first | refine jH ?_ | refine jI ?_ | refine jJ ?_ | refine jK ?_ | refine jL ?_) | refine jM (by omega) ?_ | refine jN (by omega) ?_ | with_reducible refine jM rfl ?_ | refine jM (by assumption) ?_ | refine jN (by assumption) ?_ | refine jM (by decide) ?_ | refine jN (by decide) ?_) | refine jF (ptr_ok tblOk rfl rfl) ?_ | refine jO (fun _ => by kernel_rfl) ?_ | refine jF (by decide) ?_ | refine hS.ld rfl ?_ | refine hS.ldn rfl ?_ | (refine hS.st rfl rfl ?_; intro _ hS))
    refine Cl.mono (Command_spec (hd.keep hS.nil)) ?_
    rintro _ w5 ⟨rfl, hS'⟩
    have hS := hS.call0 hS'
    unfold cmdO
    by_cases hrd : RightC d
    · rw [if_pos hrd]
      repeat (first | refine SemW.run tblOk ?_ | refine jA (by omega) ?_ | refine jB (by omega) ?_ | refine jC (by omega) ?_ | refine jD (by omega) ?_ | refine jE rfl ?_ | refine jF (by omega) ?_ | (refine jG ?_; first | with_reducible (first | refine jH ?_ | refine jI ?_ | refine jJ ?_ | refine jK ?_ | refine jL ?_) | refine jM (by omega) ?_ | refine jN (by omega) ?_ | with_reducible refine jM rfl ?_ | refine jM (by assumption) ?_ | refine jN (by assumption) ?_ | refine jM (by decide) ?_ | refine jN (by decide) ?_) | refine jF (ptr_ok tblOk rfl rfl) ?_ | refine jO (fun _ => by kernel_rfl) ?_ | refine jF (by decide) ?_ | refine hS.ld rfl ?_ | refine hS.ldn rfl ?_ | (refine hS.st rfl rfl ?_; intro _ hS))
      exact ⟨rfl, hS.nil⟩
    · rw [if_neg hrd]
      repeat (first | refine SemW.run tblOk ?_ | refine jA (by omega) ?_ | refine jB (by omega) ?_ | refine jC (by omega) ?_ | refine jD (by omega) ?_ | refine jE rfl ?_ | refine jF (by omega) ?_ | (refine jG ?_; first | with_reducible (first | refine jH ?_ | refine jI ?_ | refine jJ ?_ | refine jK ?_ | refine jL ?_) | refine jM (by omega) ?_ | refine jN (by omega) ?_ | with_reducible refine jM rfl ?_ | refine jM (by assumption) ?_ | refine jN (by assumption) ?_ | refine jM (by decide) ?_ | refine jN (by decide) ?_) | refine jF (ptr_ok tblOk rfl rfl) ?_ | refine jO (fun _ => by kernel_rfl) ?_ | refine jF (by decide) ?_ | refine hS.ld rfl ?_ | refine hS.ldn rfl ?_ | (refine hS.st rfl rfl ?_; intro _ hS))
      exact ⟨rfl, hS.nil⟩
  rw [if_pos hrc]
  repeat (first | refine SemW.run tblOk ?_ | refine jA (by omega) ?_ | refine jB (by omega) ?_ | refine jC (by omega) ?_ | refine jD (by omega) ?_ | refine jE rfl ?_ | refine jF (by omega) ?_ | (refine jG ?_; first | with_reducible (first | refine jH ?_ | refine jI ?_ | refine jJ ?_ | refine jK ?_ | refine jL ?_) | refine jM (by omega) ?_ | refine jN (by omega) ?_ | with_reducible refine jM rfl ?_ | refine jM (by assumption) ?_ | refine jN (by assumption) ?_ | refine jM (by decide) ?_ | refine jN (by decide) ?_) | refine jF (ptr_ok tblOk rfl rfl) ?_ | refine jO (fun _ => by kernel_rfl) ?_ | refine jF (by decide) ?_ | refine hS.ld rfl ?_ | refine hS.ldn rfl ?_ | (refine hS.st rfl rfl ?_; intro _ hS))
  refine Cl.mono (Command_spec (hd.keep hS.nil)) ?_
  rintro _ w5 ⟨rfl, hS'⟩
  have hS := hS.call0 hS'
  unfold cmdO
  by_cases hrd : RightC d
  rotate_left
  · rw [if_neg hrd]
    repeat (first | refine SemW.run tblOk ?_ | refine jA (by omega) ?_ | refine jB (by omega) ?_ | refine jC (by omega) ?_ | refine jD (by omega) ?_ | refine jE rfl ?_ | refine jF (by omega) ?_ | (refine jG ?_; first | with_reducible (first | refine jH ?_ | refine jI ?_ | refine jJ ?_ | refine jK ?_ | refine jL ?_) | refine jM (by omega) ?_ | refine jN (by omega) ?_ | with_reducible refine jM rfl ?_ | refine jM (by assumption) ?_ | refine jN (by assumption) ?_ | refine jM (by decide) ?_ | refine jN (by decide) ?_) | refine jF (ptr_ok tblOk rfl rfl) ?_ | refine jO (fun _ => by kernel_rfl) ?_ | refine jF (by decide) ?_ | refine hS.ld rfl ?_ | refine hS.ldn rfl ?_ | (refine hS.st rfl rfl ?_; intro _ hS))
    exact ⟨rfl, hS.nil⟩
  rw [if_pos hrd]
  have hinj := hinj hrc hrd
  generalize frameB (cmdB c) = x at hinj
  generalize frameB (cmdB d) = y at hinj
  repeat (first | refine SemW.run tblOk ?_ | refine jA (by omega) ?_ | refine jB (by omega) ?_ | refine jC (by omega) ?_ | refine jD (by omega) ?_ | refine jE rfl ?_ | refine jF (by omega) ?_ | (refine jG ?_; first | with_reducible (first | refine jH ?_ | refine jI ?_ | refine jJ ?_ | refine jK ?_ | refine jL ?_) | refine jM (by omega) ?_ | refine jN (by omega) ?_ | with_reducible refine jM rfl ?_ | refine jM (by assumption) ?_ | refine jN (by assumption) ?_ | refine jM (by decide) ?_ | refine jN (by decide) ?_) | refine jF (ptr_ok tblOk rfl rfl) ?_ | refine jO (fun _ => by kernel_rfl) ?_ | refine jF (by decide) ?_ | refine hS.ld rfl ?_ | refine hS.ldn rfl ?_ | (refine hS.st rfl rfl ?_; intro _ hS))
  refine Cl.mono (Same23_spec (x := c) (y := d) ⟨(hc.rows.keep hS.nil), (hd.rows.keep hS.nil), Nat.le_trans hc.nr (by decide)⟩) ?_
  rintro _ w6 ⟨rfl, hS'⟩
  have hS := hS.call0 hS'
  repeat (first | refine SemW.run tblOk ?_ | refine jA (by omega) ?_ | refine jB (by omega) ?_ | refine jC (by omega) ?_ | refine jD (by omega) ?_ | refine jE rfl ?_ | refine jF (by omega) ?_ | (refine jG ?_; first | with_reducible (first | refine jH ?_ | refine jI ?_ | refine jJ ?_ | refine jK ?_ | refine jL ?_) | refine jM (by omega) ?_ | refine jN (by omega) ?_ | with_reducible refine jM rfl ?_ | refine jM (by assumption) ?_ | refine jN (by assumption) ?_ | refine jM (by decide) ?_ | refine jN (by decide) ?_) | refine jF (ptr_ok tblOk rfl rfl) ?_ | refine jO (fun _ => by kernel_rfl) ?_ | refine jF (by decide) ?_ | refine hS.ld rfl ?_ | refine hS.ldn rfl ?_ | (refine hS.st rfl rfl ?_; intro _ hS))
  refine Chk.mk (by kernel_rfl) ?_
  repeat (first | refine SemW.run tblOk ?_ | refine jA (by omega) ?_ | refine jB (by omega) ?_ | refine jC (by omega) ?_ | refine jD (by omega) ?_ | refine jE rfl ?_ | refine jF (by omega) ?_ | (refine jG ?_; first | with_reducible (first | refine jH ?_ | refine jI ?_ | refine jJ ?_ | refine jK ?_ | refine jL ?_) | refine jM (by omega) ?_ | refine jN (by omega) ?_ | with_reducible refine jM rfl ?_ | refine jM (by assumption) ?_ | refine jN (by assumption) ?_ | refine jM (by decide) ?_ | refine jN (by decide) ?_) | refine jF (ptr_ok tblOk rfl rfl) ?_ | refine jO (fun _ => by kernel_rfl) ?_ | refine jF (by decide) ?_ | refine hS.ld rfl ?_ | refine hS.ldn rfl ?_ | (refine hS.st rfl rfl ?_; intro _ hS))
  refine ⟨?_, hS.nil⟩
  rw [Value.bool.injEq, beq_iff_eq, decide_eq_decide]
  exact hinj
end Go.Proofs.YthpmmfapolcaiaaDoor

/- tarmaclaw23.WireCommands. -/
namespace Go.Proofs.YthpmmfapolcaiaaDoor
open Go Go.Eng Go.Proofs
theorem readC_sizes {t : Bytes} {c : CmdM} (h : readC t = some c) : c.rows.length ≤ 20 := by
  unfold readC at h
  cases ho : openS t with
  | none => rw [ho] at h; cases h
  | some p =>
    rw [ho, Option.bind_some] at h
    obtain ⟨h1, h2⟩ := openS_iff.1 ho
    obtain ⟨h3, h4, h5⟩ := (cmdS_iff (by omega)).1 h
    exact (small_iff.1 h5.2.2.1).1
set_option maxRecDepth 4000 in
set_option maxHeartbeats 8000000 in
theorem WireCommands_spec {w : World} {c : CmdM} {a : Option Addr} {ca : Nat} {t : Bytes} (hc : ArgC w c a ca) (ht : t.length ≤ 1048576) :
    Cl Tryd.prog f_tarmaclaw23_WireCommands [cmdV c a ca, Str t] w fun v w' => v = .bool true ∧ St w [] [] w' := by
  have hS := St.start w
  refine en_tarmaclaw23_WireCommands rfl ?_
  repeat (first | refine SemW.run tblOk ?_ | refine jA (by omega) ?_ | refine jB (by omega) ?_ | refine jC (by omega) ?_ | refine jD (by omega) ?_ | refine jE rfl ?_ | refine jF (by omega) ?_ | (refine jG ?_; first | with_reducible (first | refine jH ?_ | refine jI ?_ | refine jJ ?_ | refine jK ?_ | refine jL ?_) | refine jM (by omega) ?_ | refine jN (by omega) ?_ | with_reducible refine jM rfl ?_ | refine jM (by assumption) ?_ | refine jN (by assumption) ?_ | refine jM (by decide) ?_ | refine jN (by decide) ?_) | refine jF (ptr_ok tblOk rfl rfl) ?_ | refine jO (fun _ => by kernel_rfl) ?_ | refine jF (by decide) ?_)
  refine hS.al ?_
  intro b1 w1 _ hS
  repeat (first | refine SemW.run tblOk ?_ | refine jA (by omega) ?_ | refine jB (by omega) ?_ | refine jC (by omega) ?_ | refine jD (by omega) ?_ | refine jE rfl ?_ | refine jF (by omega) ?_ | (refine jG ?_; first | with_reducible (first | refine jH ?_ | refine jI ?_ | refine jJ ?_ | refine jK ?_ | refine jL ?_) | refine jM (by omega) ?_ | refine jN (by omega) ?_ | with_reducible refine jM rfl ?_ | refine jM (by assumption) ?_ | refine jN (by assumption) ?_ | refine jM (by decide) ?_ | refine jN (by decide) ?_) | refine jF (ptr_ok tblOk rfl rfl) ?_ | refine jO (fun _ => by kernel_rfl) ?_ | refine jF (by decide) ?_ | refine hS.ld rfl ?_ | refine hS.ldn rfl ?_ | (refine hS.st rfl rfl ?_; intro _ hS))
  refine Cl.mono lives_spec ?_
  rintro _ w3 ⟨rfl, hS'⟩
  have hS := hS.call0 hS'
  repeat (first | refine SemW.run tblOk ?_ | refine jA (by omega) ?_ | refine jB (by omega) ?_ | refine jC (by omega) ?_ | refine jD (by omega) ?_ | refine jE rfl ?_ | refine jF (by omega) ?_ | (refine jG ?_; first | with_reducible (first | refine jH ?_ | refine jI ?_ | refine jJ ?_ | refine jK ?_ | refine jL ?_) | refine jM (by omega) ?_ | refine jN (by omega) ?_ | with_reducible refine jM rfl ?_ | refine jM (by assumption) ?_ | refine jN (by assumption) ?_ | refine jM (by decide) ?_ | refine jN (by decide) ?_) | refine jF (ptr_ok tblOk rfl rfl) ?_ | refine jO (fun _ => by kernel_rfl) ?_ | refine jF (by decide) ?_ | refine hS.ld rfl ?_ | refine hS.ldn rfl ?_ | (refine hS.st rfl rfl ?_; intro _ hS))
  refine Cl.mono (Command_spec (hc.keep hS.nil)) ?_
  rintro _ w4 ⟨rfl, hS'⟩
  have hS := hS.call0 hS'
  obtain ⟨so, eo, hro⟩ : ∃ so eo, cmdO c = [Str so, .int .i64 eo] := ⟨_, _, cmdO_if c⟩
  rw [hro]
  repeat (first | refine SemW.run tblOk ?_ | refine jA (by omega) ?_ | refine jB (by omega) ?_ | refine jC (by omega) ?_ | refine jD (by omega) ?_ | refine jE rfl ?_ | refine jF (by omega) ?_ | (refine jG ?_; first | with_reducible (first | refine jH ?_ | refine jI ?_ | refine jJ ?_ | refine jK ?_ | refine jL ?_) | refine jM (by omega) ?_ | refine jN (by omega) ?_ | with_reducible refine jM rfl ?_ | refine jM (by assumption) ?_ | refine jN (by assumption) ?_ | refine jM (by decide) ?_ | refine jN (by decide) ?_) | refine jF (ptr_ok tblOk rfl rfl) ?_ | refine jO (fun _ => by kernel_rfl) ?_ | refine jF (by decide) ?_ | refine hS.ld rfl ?_ | refine hS.ldn rfl ?_ | (refine hS.st rfl rfl ?_; intro _ hS))
  refine Cl.mono (Command23_spec (hc.keep hS.nil)) ?_
  rintro _ w5 ⟨rfl, hS'⟩
  have hS := hS.call0 hS'
  rw [hro]
  repeat (first | refine SemW.run tblOk ?_ | refine jA (by omega) ?_ | refine jB (by omega) ?_ | refine jC (by omega) ?_ | refine jD (by omega) ?_ | refine jE rfl ?_ | refine jF (by omega) ?_ | (refine jG ?_; first | with_reducible (first | refine jH ?_ | refine jI ?_ | refine jJ ?_ | refine jK ?_ | refine jL ?_) | refine jM (by omega) ?_ | refine jN (by omega) ?_ | with_reducible refine jM rfl ?_ | refine jM (by assumption) ?_ | refine jN (by assumption) ?_ | refine jM (by decide) ?_ | refine jN (by decide) ?_) | refine jF (ptr_ok tblOk rfl rfl) ?_ | refine jO (fun _ => by kernel_rfl) ?_ | refine jF (by decide) ?_ | refine hS.ld rfl ?_ | refine hS.ldn rfl ?_ | (refine hS.st rfl rfl ?_; intro _ hS))
  cases hx : readC t with
  | none =>
    refine Cl.mono (ReadCommand_spec (t := t) (by omega)) ?_
    intro v w6 hP
    rw [hx] at hP
    obtain ⟨rfl, hS'⟩ := hP
    have hS := hS.call0 hS'
    repeat (first | refine SemW.run tblOk ?_ | refine jA (by omega) ?_ | refine jB (by omega) ?_ | refine jC (by omega) ?_ | refine jD (by omega) ?_ | refine jE rfl ?_ | refine jF (by omega) ?_ | (refine jG ?_; first | with_reducible (first | refine jH ?_ | refine jI ?_ | refine jJ ?_ | refine jK ?_ | refine jL ?_) | refine jM (by omega) ?_ | refine jN (by omega) ?_ | with_reducible refine jM rfl ?_ | refine jM (by assumption) ?_ | refine jN (by assumption) ?_ | refine jM (by decide) ?_ | refine jN (by decide) ?_) | refine jF (ptr_ok tblOk rfl rfl) ?_ | refine jO (fun _ => by kernel_rfl) ?_ | refine jF (by decide) ?_ | refine hS.ld rfl ?_ | refine hS.ldn rfl ?_ | (refine hS.st rfl rfl ?_; intro _ hS))
    refine hS.al ?_
    intro b4 w7 _ hS
    repeat (first | refine SemW.run tblOk ?_ | refine jA (by omega) ?_ | refine jB (by omega) ?_ | refine jC (by omega) ?_ | refine jD (by omega) ?_ | refine jE rfl ?_ | refine jF (by omega) ?_ | (refine jG ?_; first | with_reducible (first | refine jH ?_ | refine jI ?_ | refine jJ ?_ | refine jK ?_ | refine jL ?_) | refine jM (by omega) ?_ | refine jN (by omega) ?_ | with_reducible refine jM rfl ?_ | refine jM (by assumption) ?_ | refine jN (by assumption) ?_ | refine jM (by decide) ?_ | refine jN (by decide) ?_) | refine jF (ptr_ok tblOk rfl rfl) ?_ | refine jO (fun _ => by kernel_rfl) ?_ | refine jF (by decide) ?_ | refine hS.ld rfl ?_ | refine hS.ldn rfl ?_ | (refine hS.st rfl rfl ?_; intro _ hS))
    refine Cl.mono (ReadCommand23_spec (t := t) (by omega)) ?_
    intro v w8 hP
    rw [hx] at hP
    obtain ⟨rfl, hS'⟩ := hP
    have hS := hS.call0 hS'
    repeat (first | refine SemW.run tblOk ?_ | refine jA (by omega) ?_ | refine jB (by omega) ?_ | refine jC (by omega) ?_ | refine jD (by omega) ?_ | refine jE rfl ?_ | refine jF (by omega) ?_ | (refine jG ?_; first | with_reducible (first | refine jH ?_ | refine jI ?_ | refine jJ ?_ | refine jK ?_ | refine jL ?_) | refine jM (by omega) ?_ | refine jN (by omega) ?_ | with_reducible refine jM rfl ?_ | refine jM (by assumption) ?_ | refine jN (by assumption) ?_ | refine jM (by decide) ?_ | refine jN (by decide) ?_) | refine jF (ptr_ok tblOk rfl rfl) ?_ | refine jO (fun _ => by kernel_rfl) ?_ | refine jF (by decide) ?_ | refine hS.ld rfl ?_ | refine hS.ldn rfl ?_ | (refine hS.st rfl rfl ?_; intro _ hS))
    refine hS.al ?_
    intro b5 w9 _ hS
    repeat (first | refine SemW.run tblOk ?_ | refine jA (by omega) ?_ | refine jB (by omega) ?_ | refine jC (by omega) ?_ | refine jD (by omega) ?_ | refine jE rfl ?_ | refine jF (by omega) ?_ | (refine jG ?_; first | with_reducible (first | refine jH ?_ | refine jI ?_ | refine jJ ?_ | refine jK ?_ | refine jL ?_) | refine jM (by omega) ?_ | refine jN (by omega) ?_ | with_reducible refine jM rfl ?_ | refine jM (by assumption) ?_ | refine jN (by assumption) ?_ | refine jM (by decide) ?_ | refine jN (by decide) ?_) | refine jF (ptr_ok tblOk rfl rfl) ?_ | refine jO (fun _ => by kernel_rfl) ?_ | refine jF (by decide) ?_ | refine hS.ld rfl ?_ | refine hS.ldn rfl ?_ | (refine hS.st rfl rfl ?_; intro _ hS))
    refine Cl.mono (Same23_spec (x := hdC 0 0) (y := hdC 0 0) (a := none) (b := none) ⟨⟨Arr.nil _ _ _, Nat.le_refl _⟩, ⟨Arr.nil _ _ _, Nat.le_refl _⟩, Nat.zero_le _⟩) ?_
    rintro _ w10 ⟨rfl, hS'⟩
    have hS := hS.call0 hS'
    rw [decide_eq_true rfl]
    repeat (first | refine SemW.run tblOk ?_ | refine jA (by omega) ?_ | refine jB (by omega) ?_ | refine jC (by omega) ?_ | refine jD (by omega) ?_ | refine jE rfl ?_ | refine jF (by omega) ?_ | (refine jG ?_; first | with_reducible (first | refine jH ?_ | refine jI ?_ | refine jJ ?_ | refine jK ?_ | refine jL ?_) | refine jM (by omega) ?_ | refine jN (by omega) ?_ | with_reducible refine jM rfl ?_ | refine jM (by assumption) ?_ | refine jN (by assumption) ?_ | refine jM (by decide) ?_ | refine jN (by decide) ?_) | refine jF (ptr_ok tblOk rfl rfl) ?_ | refine jO (fun _ => by kernel_rfl) ?_ | refine jF (by decide) ?_ | refine hS.ld rfl ?_ | refine hS.ldn rfl ?_ | (refine hS.st rfl rfl ?_; intro _ hS))
    refine SemW.loop (fun _ : Unit => [(1, Str t), (9, ptr b4), (10, ptr b5), (55, .int .i64 0), (56, .int .i64 0)])
      (fun _ w' => St w [] [(b5, cmdO29 (hdC 0 0) none 0), (b4, cmdO29 (hdC 0 0) none 0), (b1, cmdO29 c a ca)] w') (fun _ => 0) ()
      ⟨rfl, rfl, rfl, rfl, rfl, trivial⟩ hS ?_
    clear hS hS'
    rintro _ w10 hS
    repeat (first | refine SemW.run tblOk ?_ | refine jA (by omega) ?_ | refine jB (by omega) ?_ | refine jC (by omega) ?_ | refine jD (by omega) ?_ | refine jE rfl ?_ | refine jF (by omega) ?_ | (refine jG ?_; first | with_reducible (first | refine jH ?_ | refine jI ?_ | refine jJ ?_ | refine jK ?_ | refine jL ?_) | refine jM (by omega) ?_ | refine jN (by omega) ?_ | with_reducible refine jM rfl ?_ | refine jM (by assumption) ?_ | refine jN (by assumption) ?_ | refine jM (by decide) ?_ | refine jN (by decide) ?_) | refine jF (ptr_ok tblOk rfl rfl) ?_ | refine jO (fun _ => by kernel_rfl) ?_ | refine jF (by decide) ?_ | refine hS.ld rfl ?_ | refine hS.ldn rfl ?_ | (refine hS.st rfl rfl ?_; intro _ hS))
    refine Cl.mono (ReadCommand_spec (t := t) (by omega)) ?_
    intro v w6 hP
    rw [hx] at hP
    obtain ⟨rfl, hS'⟩ := hP
    have hS := hS.call0 hS'
    repeat (first | refine SemW.run tblOk ?_ | refine jA (by omega) ?_ | refine jB (by omega) ?_ | refine jC (by omega) ?_ | refine jD (by omega) ?_ | refine jE rfl ?_ | refine jF (by omega) ?_ | (refine jG ?_; first | with_reducible (first | refine jH ?_ | refine jI ?_ | refine jJ ?_ | refine jK ?_ | refine jL ?_) | refine jM (by omega) ?_ | refine jN (by omega) ?_ | with_reducible refine jM rfl ?_ | refine jM (by assumption) ?_ | refine jN (by assumption) ?_ | refine jM (by decide) ?_ | refine jN (by decide) ?_) | refine jF (ptr_ok tblOk rfl rfl) ?_ | refine jO (fun _ => by kernel_rfl) ?_ | refine jF (by decide) ?_ | refine hS.ld rfl ?_ | refine hS.ldn rfl ?_ | (refine hS.st rfl rfl ?_; intro _ hS))
    refine hS.al ?_
    intro b6 w7 _ hS
    repeat (first | refine SemW.run tblOk ?_ | refine jA (by omega) ?_ | refine jB (by omega) ?_ | refine jC (by omega) ?_ | refine jD (by omega) ?_ | refine jE rfl ?_ | refine jF (by omega) ?_ | (refine jG ?_; first | with_reducible (first | refine jH ?_ | refine jI ?_ | refine jJ ?_ | refine jK ?_ | refine jL ?_) | refine jM (by omega) ?_ | refine jN (by omega) ?_ | with_reducible refine jM rfl ?_ | refine jM (by assumption) ?_ | refine jN (by assumption) ?_ | refine jM (by decide) ?_ | refine jN (by decide) ?_) | refine jF (ptr_ok tblOk rfl rfl) ?_ | refine jO (fun _ => by kernel_rfl) ?_ | refine jF (by decide) ?_ | refine hS.ld rfl ?_ | refine hS.ldn rfl ?_ | (refine hS.st rfl rfl ?_; intro _ hS))
    refine Cl.mono (Same23_spec (x := hdC 0 0) (y := hdC 0 0) (a := none) (b := none) ⟨⟨Arr.nil _ _ _, Nat.le_refl _⟩, ⟨Arr.nil _ _ _, Nat.le_refl _⟩, Nat.zero_le _⟩) ?_
    rintro _ w10 ⟨rfl, hS'⟩
    have hS := hS.call0 hS'
    rw [decide_eq_true rfl]
    repeat (first | refine SemW.run tblOk ?_ | refine jA (by omega) ?_ | refine jB (by omega) ?_ | refine jC (by omega) ?_ | refine jD (by omega) ?_ | refine jE rfl ?_ | refine jF (by omega) ?_ | (refine jG ?_; first | with_reducible (first | refine jH ?_ | refine jI ?_ | refine jJ ?_ | refine jK ?_ | refine jL ?_) | refine jM (by omega) ?_ | refine jN (by omega) ?_ | with_reducible refine jM rfl ?_ | refine jM (by assumption) ?_ | refine jN (by assumption) ?_ | refine jM (by decide) ?_ | refine jN (by decide) ?_) | refine jF (ptr_ok tblOk rfl rfl) ?_ | refine jO (fun _ => by kernel_rfl) ?_ | refine jF (by decide) ?_ | refine hS.ld rfl ?_ | refine hS.ldn rfl ?_ | (refine hS.st rfl rfl ?_; intro _ hS))
    exact ⟨rfl, hS.nil⟩
  | some x =>
    have hn := readC_sizes hx
    refine Cl.mono (ReadCommand_spec (t := t) (by omega)) ?_
    intro v w6 hP
    rw [hx] at hP
    obtain ⟨ax, cx, Lx, rfl, hvx, hS'⟩ := hP
    have hS := hS.callNew hS'
    repeat (first | refine SemW.run tblOk ?_ | refine jA (by omega) ?_ | refine jB (by omega) ?_ | refine jC (by omega) ?_ | refine jD (by omega) ?_ | refine jE rfl ?_ | refine jF (by omega) ?_ | (refine jG ?_; first | with_reducible (first | refine jH ?_ | refine jI ?_ | refine jJ ?_ | refine jK ?_ | refine jL ?_) | refine jM (by omega) ?_ | refine jN (by omega) ?_ | with_reducible refine jM rfl ?_ | refine jM (by assumption) ?_ | refine jN (by assumption) ?_ | refine jM (by decide) ?_ | refine jN (by decide) ?_) | refine jF (ptr_ok tblOk rfl rfl) ?_ | refine jO (fun _ => by kernel_rfl) ?_ | refine jF (by decide) ?_ | refine hS.ld rfl ?_ | refine hS.ldn rfl ?_ | (refine hS.st rfl rfl ?_; intro _ hS))
    refine hS.al ?_
    intro b4 w7 _ hS
    repeat (first | refine SemW.run tblOk ?_ | refine jA (by omega) ?_ | refine jB (by omega) ?_ | refine jC (by omega) ?_ | refine jD (by omega) ?_ | refine jE rfl ?_ | refine jF (by omega) ?_ | (refine jG ?_; first | with_reducible (first | refine jH ?_ | refine jI ?_ | refine jJ ?_ | refine jK ?_ | refine jL ?_) | refine jM (by omega) ?_ | refine jN (by omega) ?_ | with_reducible refine jM rfl ?_ | refine jM (by assumption) ?_ | refine jN (by assumption) ?_ | refine jM (by decide) ?_ | refine jN (by decide) ?_) | refine jF (ptr_ok tblOk rfl rfl) ?_ | refine jO (fun _ => by kernel_rfl) ?_ | refine jF (by decide) ?_ | refine hS.ld rfl ?_ | refine hS.ldn rfl ?_ | (refine hS.st rfl rfl ?_; intro _ hS))
    refine Cl.mono (ReadCommand23_spec (t := t) (by omega)) ?_
    intro v w8 hP
    rw [hx] at hP
    obtain ⟨ay, cy, Ly, rfl, hvy, hS'⟩ := hP
    have hS := hS.callNew hS'
    repeat (first | refine SemW.run tblOk ?_ | refine jA (by omega) ?_ | refine jB (by omega) ?_ | refine jC (by omega) ?_ | refine jD (by omega) ?_ | refine jE rfl ?_ | refine jF (by omega) ?_ | (refine jG ?_; first | with_reducible (first | refine jH ?_ | refine jI ?_ | refine jJ ?_ | refine jK ?_ | refine jL ?_) | refine jM (by omega) ?_ | refine jN (by omega) ?_ | with_reducible refine jM rfl ?_ | refine jM (by assumption) ?_ | refine jN (by assumption) ?_ | refine jM (by decide) ?_ | refine jN (by decide) ?_) | refine jF (ptr_ok tblOk rfl rfl) ?_ | refine jO (fun _ => by kernel_rfl) ?_ | refine jF (by decide) ?_ | refine hS.ld rfl ?_ | refine hS.ldn rfl ?_ | (refine hS.st rfl rfl ?_; intro _ hS))
    refine hS.al ?_
    intro b5 w9 _ hS
    repeat (first | refine SemW.run tblOk ?_ | refine jA (by omega) ?_ | refine jB (by omega) ?_ | refine jC (by omega) ?_ | refine jD (by omega) ?_ | refine jE rfl ?_ | refine jF (by omega) ?_ | (refine jG ?_; first | with_reducible (first | refine jH ?_ | refine jI ?_ | refine jJ ?_ | refine jK ?_ | refine jL ?_) | refine jM (by omega) ?_ | refine jN (by omega) ?_ | with_reducible refine jM rfl ?_ | refine jM (by assumption) ?_ | refine jN (by assumption) ?_ | refine jM (by decide) ?_ | refine jN (by decide) ?_) | refine jF (ptr_ok tblOk rfl rfl) ?_ | refine jO (fun _ => by kernel_rfl) ?_ | refine jF (by decide) ?_ | refine hS.ld rfl ?_ | refine hS.ldn rfl ?_ | (refine hS.st rfl rfl ?_; intro _ hS))
    refine Cl.mono (Same23_spec (x := x) (y := x) ⟨rowsAt_vec (L := Lx) hS hvx, rowsAt_vec (L := Ly) hS hvy, by omega⟩) ?_
    rintro _ w10 ⟨rfl, hS'⟩
    have hS := hS.call0 hS'
    rw [decide_eq_true rfl]
    repeat (first | refine SemW.run tblOk ?_ | refine jA (by omega) ?_ | refine jB (by omega) ?_ | refine jC (by omega) ?_ | refine jD (by omega) ?_ | refine jE rfl ?_ | refine jF (by omega) ?_ | (refine jG ?_; first | with_reducible (first | refine jH ?_ | refine jI ?_ | refine jJ ?_ | refine jK ?_ | refine jL ?_) | refine jM (by omega) ?_ | refine jN (by omega) ?_ | with_reducible refine jM rfl ?_ | refine jM (by assumption) ?_ | refine jN (by assumption) ?_ | refine jM (by decide) ?_ | refine jN (by decide) ?_) | refine jF (ptr_ok tblOk rfl rfl) ?_ | refine jO (fun _ => by kernel_rfl) ?_ | refine jF (by decide) ?_ | refine hS.ld rfl ?_ | refine hS.ldn rfl ?_ | (refine hS.st rfl rfl ?_; intro _ hS))
    have hxl := flatRow_len x.rows
    refine SemW.loop (fun k : Nat => [(1, Str t), (9, ptr b4), (10, ptr b5), (55, .int .i64 x.rows.length), (56, .int .i64 k)])
      (fun k w' => k ≤ x.rows.length ∧ ∃ xs L, Vec T_api_Row 5 ax x.rows.length cx xs L ∧ St w [] ((b5, cmdO29 x ay cy) :: (Ly ++ ((b4, cmdO29 x ax cx) :: (L ++ [(b1, cmdO29 c a ca)])))) w') (fun k => x.rows.length - k) 0
      ⟨rfl, rfl, rfl, rfl, rfl, trivial⟩ ⟨Nat.zero_le _, _, Lx, hvx, hS⟩ ?_
    clear hS hvx hS'
    rintro k w10 ⟨hk, xs, L, hv, hS⟩
    by_cases hkl : k < x.rows.length
    · rcases hv.inv with ⟨-, h0, -⟩ | ⟨g, l', rfl, hxx, hl', hnc, rfl⟩
      · omega
      repeat (first | refine SemW.run tblOk ?_ | refine jA (by omega) ?_ | refine jB (by omega) ?_ | refine jC (by omega) ?_ | refine jD (by omega) ?_ | refine jE rfl ?_ | refine jF (by omega) ?_ | (refine jG ?_; first | with_reducible (first | refine jH ?_ | refine jI ?_ | refine jJ ?_ | refine jK ?_ | refine jL ?_) | refine jM (by omega) ?_ | refine jN (by omega) ?_ | with_reducible refine jM rfl ?_ | refine jM (by assumption) ?_ | refine jN (by assumption) ?_ | refine jM (by decide) ?_ | refine jN (by decide) ?_) | refine jF (ptr_ok tblOk rfl rfl) ?_ | refine jO (fun _ => by kernel_rfl) ?_ | refine jF (by decide) ?_ | refine hS.ld rfl ?_ | refine hS.ldn rfl ?_ | (refine hS.st rfl rfl ?_; intro _ hS))
      have hfit : 0 + ((k : Int)).toNat * 5 + 5 ≤ (xs ++ l').length := by rw [List.length_append]; omega
      refine hS.stN (b := g) (vs := [.int .i64 (-1), .int .i64 0, .int .i64 0, .bool false, Str []]) rfl hfit ?_
      intro w11 hS
      have hsl := splice_len (xs ++ l') (0 + ((k : Int)).toNat * 5) [.int .i64 (-1), .int .i64 0, .int .i64 0, .bool false, Str []] hfit
      rw [List.length_append] at hsl
      generalize splice (xs ++ l') (0 + ((k : Int)).toNat * 5) [.int .i64 (-1), .int .i64 0, .int .i64 0, .bool false, Str []] = z at hS hsl
      have hv' : Vec T_api_Row 5 (some ⟨g, 0, none⟩) x.rows.length cx (z.take (x.rows.length * 5)) [(g, .cells ⟨z.take (x.rows.length * 5) ++ z.drop (x.rows.length * 5)⟩ T_api_Row (0, 0))] :=
        Vec.row _ _ _ _ _ (by rw [List.length_take]; omega) (by rw [List.length_take, List.length_drop]; omega) hnc
      repeat (first | refine SemW.run tblOk ?_ | refine jA (by omega) ?_ | refine jB (by omega) ?_ | refine jC (by omega) ?_ | refine jD (by omega) ?_ | refine jE rfl ?_ | refine jF (by omega) ?_ | (refine jG ?_; first | with_reducible (first | refine jH ?_ | refine jI ?_ | refine jJ ?_ | refine jK ?_ | refine jL ?_) | refine jM (by omega) ?_ | refine jN (by omega) ?_ | with_reducible refine jM rfl ?_ | refine jM (by assumption) ?_ | refine jN (by assumption) ?_ | refine jM (by decide) ?_ | refine jN (by decide) ?_) | refine jF (ptr_ok tblOk rfl rfl) ?_ | refine jO (fun _ => by kernel_rfl) ?_ | refine jF (by decide) ?_ | refine hS.ld rfl ?_ | refine hS.ldn rfl ?_ | (refine hS.st rfl rfl ?_; intro _ hS))
      refine ⟨k + 1, ⟨rfl, rfl, rfl, rfl, rfl, trivial⟩, ⟨by omega, _, _, hv', ?_⟩, by omega⟩
      rw [List.take_append_drop]
      exact hS
    · repeat (first | refine SemW.run tblOk ?_ | refine jA (by omega) ?_ | refine jB (by omega) ?_ | refine jC (by omega) ?_ | refine jD (by omega) ?_ | refine jE rfl ?_ | refine jF (by omega) ?_ | (refine jG ?_; first | with_reducible (first | refine jH ?_ | refine jI ?_ | refine jJ ?_ | refine jK ?_ | refine jL ?_) | refine jM (by omega) ?_ | refine jN (by omega) ?_ | with_reducible refine jM rfl ?_ | refine jM (by assumption) ?_ | refine jN (by assumption) ?_ | refine jM (by decide) ?_ | refine jN (by decide) ?_) | refine jF (ptr_ok tblOk rfl rfl) ?_ | refine jO (fun _ => by kernel_rfl) ?_ | refine jF (by decide) ?_ | refine hS.ld rfl ?_ | refine hS.ldn rfl ?_ | (refine hS.st rfl rfl ?_; intro _ hS))
      refine Cl.mono (ReadCommand_spec (t := t) (by omega)) ?_
      intro v w6 hP
      rw [hx] at hP
      obtain ⟨az, cz, Lz, rfl, hvz, hS'⟩ := hP
      have hS := hS.callNew hS'
      repeat (first | refine SemW.run tblOk ?_ | refine jA (by omega) ?_ | refine jB (by omega) ?_ | refine jC (by omega) ?_ | refine jD (by omega) ?_ | refine jE rfl ?_ | refine jF (by omega) ?_ | (refine jG ?_; first | with_reducible (first | refine jH ?_ | refine jI ?_ | refine jJ ?_ | refine jK ?_ | refine jL ?_) | refine jM (by omega) ?_ | refine jN (by omega) ?_ | with_reducible refine jM rfl ?_ | refine jM (by assumption) ?_ | refine jN (by assumption) ?_ | refine jM (by decide) ?_ | refine jN (by decide) ?_) | refine jF (ptr_ok tblOk rfl rfl) ?_ | refine jO (fun _ => by kernel_rfl) ?_ | refine jF (by decide) ?_ | refine hS.ld rfl ?_ | refine hS.ldn rfl ?_ | (refine hS.st rfl rfl ?_; intro _ hS))
      refine hS.al ?_
      intro b6 w12 _ hS
      repeat (first | refine SemW.run tblOk ?_ | refine jA (by omega) ?_ | refine jB (by omega) ?_ | refine jC (by omega) ?_ | refine jD (by omega) ?_ | refine jE rfl ?_ | refine jF (by omega) ?_ | (refine jG ?_; first | with_reducible (first | refine jH ?_ | refine jI ?_ | refine jJ ?_ | refine jK ?_ | refine jL ?_) | refine jM (by omega) ?_ | refine jN (by omega) ?_ | with_reducible refine jM rfl ?_ | refine jM (by assumption) ?_ | refine jN (by assumption) ?_ | refine jM (by decide) ?_ | refine jN (by decide) ?_) | refine jF (ptr_ok tblOk rfl rfl) ?_ | refine jO (fun _ => by kernel_rfl) ?_ | refine jF (by decide) ?_ | refine hS.ld rfl ?_ | refine hS.ldn rfl ?_ | (refine hS.st rfl rfl ?_; intro _ hS))
      refine Cl.mono (Same23_spec (x := x) (y := x) ⟨rowsAt_vec (L := Lz) hS hvz, rowsAt_vec (L := Ly) hS hvy, by omega⟩) ?_
      rintro _ w13 ⟨rfl, hS'⟩
      have hS := hS.call0 hS'
      rw [decide_eq_true rfl]
      repeat (first | refine SemW.run tblOk ?_ | refine jA (by omega) ?_ | refine jB (by omega) ?_ | refine jC (by omega) ?_ | refine jD (by omega) ?_ | refine jE rfl ?_ | refine jF (by omega) ?_ | (refine jG ?_; first | with_reducible (first | refine jH ?_ | refine jI ?_ | refine jJ ?_ | refine jK ?_ | refine jL ?_) | refine jM (by omega) ?_ | refine jN (by omega) ?_ | with_reducible refine jM rfl ?_ | refine jM (by assumption) ?_ | refine jN (by assumption) ?_ | refine jM (by decide) ?_ | refine jN (by decide) ?_) | refine jF (ptr_ok tblOk rfl rfl) ?_ | refine jO (fun _ => by kernel_rfl) ?_ | refine jF (by decide) ?_ | refine hS.ld rfl ?_ | refine hS.ldn rfl ?_ | (refine hS.st rfl rfl ?_; intro _ hS))
      exact ⟨rfl, hS.nil⟩
end Go.Proofs.YthpmmfapolcaiaaDoor
