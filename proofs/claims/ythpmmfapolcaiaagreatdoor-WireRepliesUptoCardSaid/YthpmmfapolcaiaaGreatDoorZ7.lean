/- Texts of this claim, one behind the other. -/
import Derived.Test.YthpmmfapolcaiaaGreatDoorZ3
import Derived.Test.YthpmmfapolcaiaaGreatDoorZ6
import Derived.Test.YthpmmfapolcaiaaGreatDoorZ4
import Derived.Test.YthpmmfapolcaiaaGreatDoorZ5
import Derived.Test.YthpmmfapolcaiaaGreatDoorRows
import Derived.Test.YthpmmfapolcaiaaGreatDoorZ2
import Derived.Stop.LaidErr
import Derived.LaidLaws
/- tarmacref23.ReadReply. -/
namespace Go.Proofs.YthpmmfapolcaiaaGreatDoor
open Go Go.Eng Go.Proofs
structure RLI where
  i : Nat
  s : RB
  l : List Int
  a : Option Addr
  c : Nat
abbrev codeR (code : Int) (l : List Int) : ReplyM := ⟨code, l, 0, 0, 0, 0, false, zPax, []⟩
theorem rdI_go (n : Nat) (s : RB) (l : List Int) (h : s.bad = false) : rdI (n + 1) (s, l) = rdI n ((rbInt s).2, l ++ [(rbInt s).1]) := by
  rw [rdI, if_neg (by rw [h]; decide)]
theorem rdI_halt (n : Nat) (s : RB) (l : List Int) (h : s.bad = true) : rdI n (s, l) = (s, l) := by
  cases n with
  | zero => rfl
  | succ n => rw [rdI, if_pos h]
def bitB (b : Bool) : Nat := if b then 1 else 0
theorem repO_if (r : ReplyM) : repOut r = [Str (if seatGood r.pax.num r.pax.c = true ∧ (replyB r).length ≤ 65536 then frameB (replyB r) else []), .int .i64 (if seatGood r.pax.num r.pax.c = true ∧ (replyB r).length ≤ 65536 then 0 else 34)] := by
  unfold repOut
  split
  · rfl
  · rfl
theorem bitB_le (b : Bool) : bitB b ≤ 1 := by cases b <;> decide
theorem rbInt_dec {s : RB} (h : s.bad = false) : (rbInt s).2.t.length + 1 ≤ s.t.length + bitB (rbInt s).2.bad := by
  have h1 := intO_len s.t
  unfold rbInt bitB
  simp only [h, Bool.false_or]
  by_cases e1 : (intO s.t).2.1 = 0
  · have h3 := intO_len' e1
    split <;> omega
  · rw [decide_eq_true e1, if_pos rfl]; omega
theorem lPax_id (t : Bytes) (id : Int) : lPax t id = ({ (lPax t 0).1 with id := id }, (lPax t 0).2) := by unfold lPax tk; rfl
theorem wInts_t : ∀ (n : Nat) (s : RB), (wInts n s).2.t.length ≤ s.t.length
  | 0, s => Nat.le_refl _
  | n + 1, s => Nat.le_trans (wInts_t n _) (rbInt_t s)
theorem lPax_t (t : Bytes) : (lPax t 0).2.t.length ≤ t.length := by
  unfold lPax tk
  exact Nat.le_trans (wText_tlen _) (Nat.le_trans (rbNum_t _) (wInts_t 6 ⟨t, false⟩))
set_option maxRecDepth 4000 in
set_option maxHeartbeats 8000000 in
theorem ReadReply23_spec {w : World} {t : Bytes} (ht : t.length ≤ 16777216) (hE : ErrVars w) : Cl Tryz.prog f_tarmacref23_ReadReply [Str t] w fun v w' => RepPost (readR t) v w w' := by
  have hS := St.start w
  unfold readR
  refine en_tarmacref23_ReadReply rfl ?_
  repeat (first | refine SemW.run tblOk ?_ | refine jA (by omega) ?_ | refine jB (by omega) ?_ | refine jC (by omega) ?_ | refine jD (by omega) ?_ | refine jE rfl ?_ | refine jF (by omega) ?_ | (refine jG ?_; first | with_reducible (first | refine jH ?_ | refine jI ?_ | refine jJ ?_ | refine jK ?_ | refine jL ?_) | refine jM (by omega) ?_ | refine jN (by omega) ?_ | with_reducible refine jM rfl ?_ | refine jM (by assumption) ?_ | refine jN (by assumption) ?_ | refine jM (by decide) ?_ | refine jN (by decide) ?_) | refine jF (ptr_ok tblOk rfl rfl) ?_ | refine jO (fun _ => by kernel_rfl) ?_ | refine jF (by decide) ?_)
  refine hS.al ?_
  intro b2 w1 _ hS
  repeat (first | refine SemW.run tblOk ?_ | refine jA (by omega) ?_ | refine jB (by omega) ?_ | refine jC (by omega) ?_ | refine jD (by omega) ?_ | refine jE rfl ?_ | refine jF (by omega) ?_ | (refine jG ?_; first | with_reducible (first | refine jH ?_ | refine jI ?_ | refine jJ ?_ | refine jK ?_ | refine jL ?_) | refine jM (by omega) ?_ | refine jN (by omega) ?_ | with_reducible refine jM rfl ?_ | refine jM (by assumption) ?_ | refine jN (by assumption) ?_ | refine jM (by decide) ?_ | refine jN (by decide) ?_) | refine jF (ptr_ok tblOk rfl rfl) ?_ | refine jO (fun _ => by kernel_rfl) ?_ | refine jF (by decide) ?_ | refine hS.ld rfl ?_ | refine hS.ldn rfl ?_ | (refine hS.st rfl rfl ?_; intro _ hS))
  refine Cl.mono (payload_spec (by omega)) ?_
  intro v w2 hO
  have hle : ∀ p, openS t = some p → p.length ≤ 65536 := fun p h => (openS_iff.1 h).2
  cases ho : openS t with
  | none =>
    rw [ho] at hO
    obtain ⟨rfl, hS'⟩ := hO
    have hS := hS.call0 hS'
    repeat (first | refine SemW.run tblOk ?_ | refine jA (by omega) ?_ | refine jB (by omega) ?_ | refine jC (by omega) ?_ | refine jD (by omega) ?_ | refine jE rfl ?_ | refine jF (by omega) ?_ | (refine jG ?_; first | with_reducible (first | refine jH ?_ | refine jI ?_ | refine jJ ?_ | refine jK ?_ | refine jL ?_) | refine jM (by omega) ?_ | refine jN (by omega) ?_ | with_reducible refine jM rfl ?_ | refine jM (by assumption) ?_ | refine jN (by assumption) ?_ | refine jM (by decide) ?_ | refine jN (by decide) ?_) | refine jF (ptr_ok tblOk rfl rfl) ?_ | refine jO (fun _ => by kernel_rfl) ?_ | refine jF (by decide) ?_ | refine hS.ld rfl ?_ | refine hS.ldn rfl ?_ | (refine hS.st rfl rfl ?_; intro _ hS))
    exact ⟨rfl, hS.nil⟩
  | some p =>
    rw [ho] at hO
    obtain ⟨xb, rb, rfl, hS'⟩ := hO
    have hpl := hle p ho
    have hS := hS.callNew hS'
    rw [Option.bind_some, ← check_reply (by omega)]
    repeat (first | refine SemW.run tblOk ?_ | refine jA (by omega) ?_ | refine jB (by omega) ?_ | refine jC (by omega) ?_ | refine jD (by omega) ?_ | refine jE rfl ?_ | refine jF (by omega) ?_ | (refine jG ?_; first | with_reducible (first | refine jH ?_ | refine jI ?_ | refine jJ ?_ | refine jK ?_ | refine jL ?_) | refine jM (by omega) ?_ | refine jN (by omega) ?_ | with_reducible refine jM rfl ?_ | refine jM (by assumption) ?_ | refine jN (by assumption) ?_ | refine jM (by decide) ?_ | refine jN (by decide) ?_) | refine jF (ptr_ok tblOk rfl rfl) ?_ | refine jO (fun _ => by kernel_rfl) ?_ | refine jF (by decide) ?_ | refine hS.ld rfl ?_ | refine hS.ldn rfl ?_ | (refine hS.st rfl rfl ?_; intro _ hS))
    refine Cl.mono (in_int (s := ⟨p, false⟩) (hS.part (L := inH xb rb (⟨p, false⟩))) (by simp only; omega)) ?_
    rintro _ w3 ⟨rfl, hS'⟩
    have hS := hS.call (L := inH xb rb (⟨p, false⟩)) hS'
    have ht1 := rbInt_t ⟨p, false⟩
    repeat (first | refine SemW.run tblOk ?_ | refine jA (by omega) ?_ | refine jB (by omega) ?_ | refine jC (by omega) ?_ | refine jD (by omega) ?_ | refine jE rfl ?_ | refine jF (by omega) ?_ | (refine jG ?_; first | with_reducible (first | refine jH ?_ | refine jI ?_ | refine jJ ?_ | refine jK ?_ | refine jL ?_) | refine jM (by omega) ?_ | refine jN (by omega) ?_ | with_reducible refine jM rfl ?_ | refine jM (by assumption) ?_ | refine jN (by assumption) ?_ | refine jM (by decide) ?_ | refine jN (by decide) ?_) | refine jF (ptr_ok tblOk rfl rfl) ?_ | refine jO (fun _ => by kernel_rfl) ?_ | refine jF (by decide) ?_ | refine hS.ld rfl ?_ | refine hS.ldn rfl ?_ | (refine hS.st rfl rfl ?_; intro _ hS))
    refine hS.al ?_
    intro ab w4 _ hS
    repeat (first | refine SemW.run tblOk ?_ | refine jA (by omega) ?_ | refine jB (by omega) ?_ | refine jC (by omega) ?_ | refine jD (by omega) ?_ | refine jE rfl ?_ | refine jF (by omega) ?_ | (refine jG ?_; first | with_reducible (first | refine jH ?_ | refine jI ?_ | refine jJ ?_ | refine jK ?_ | refine jL ?_) | refine jM (by omega) ?_ | refine jN (by omega) ?_ | with_reducible refine jM rfl ?_ | refine jM (by assumption) ?_ | refine jN (by assumption) ?_ | refine jM (by decide) ?_ | refine jN (by decide) ?_) | refine jF (ptr_ok tblOk rfl rfl) ?_ | refine jO (fun _ => by kernel_rfl) ?_ | refine jF (by decide) ?_ | refine hS.ld rfl ?_ | refine hS.ldn rfl ?_ | (refine hS.st rfl rfl ?_; intro _ hS))
    unfold lReply tk
    have hco := rbInt_ok' ⟨p, false⟩
    generalize rbInt ⟨p, false⟩ = y at hS ht1 hco ⊢
    obtain ⟨code, s1⟩ := y
    simp only at hS ht1 hco ⊢
    have hS : St w [] ((ab, repO (codeR code []) none 0) :: (inH xb rb s1 ++ [(b2, _)])) _ := hS
    refine Cl.mono (in_num (s := s1) (hS.part (L := inH xb rb (s1))) (by omega)) ?_
    rintro _ w5 ⟨rfl, hS'⟩
    have hS := hS.call (L := inH xb rb (s1)) hS'
    have ht2 := rbNum_t s1
    have hnlt : (rbNum s1).1 < 18446744073709551616 := numO_lt s1.t
    generalize rbNum s1 = y at hS ht2 hnlt ⊢
    obtain ⟨n, s2⟩ := y
    simp only at hS ht2 hnlt ⊢
    have hj : 0 ≤ n ∧ rdI (n - 0) (s2, []) = rdI n (s2, []) ∧ s2.t.length ≤ p.length ∧ ([] : List Int).length + s2.t.length ≤ p.length + bitB s2.bad := ⟨Nat.zero_le _, rfl, by omega, by simp only [List.length_nil]; omega⟩
    repeat (first | refine SemW.run tblOk ?_ | refine jA (by omega) ?_ | refine jB (by omega) ?_ | refine jC (by omega) ?_ | refine jD (by omega) ?_ | refine jE rfl ?_ | refine jF (by omega) ?_ | (refine jG ?_; first | with_reducible (first | refine jH ?_ | refine jI ?_ | refine jJ ?_ | refine jK ?_ | refine jL ?_) | refine jM (by omega) ?_ | refine jN (by omega) ?_ | with_reducible refine jM rfl ?_ | refine jM (by assumption) ?_ | refine jN (by assumption) ?_ | refine jM (by decide) ?_ | refine jN (by decide) ?_) | refine jF (ptr_ok tblOk rfl rfl) ?_ | refine jO (fun _ => by kernel_rfl) ?_ | refine jF (by decide) ?_ | refine hS.ld rfl ?_ | refine hS.ldn rfl ?_ | (refine hS.st rfl rfl ?_; intro _ hS))
    refine StopW.join (fun z : RLI => [(0, Str t), (2, ptr b2), (3, .int .i64 0), (4, ptr xb), (6, ptr ab)])
      (fun z w' => ((z.s, z.l) = rdI n (s2, []) ∧ z.s.t.length ≤ p.length ∧ z.l.length ≤ p.length + 1) ∧ ∃ L, Vec T_int 1 z.a z.l.length z.c (z.l.map intV) L ∧ St w [] ((ab, repO (codeR code z.l) z.a z.c) :: (inH xb rb z.s ++ (L ++ [(b2, repO zRep none 0)]))) w') ?_ ?_
    · refine SemW.loop (fun z : RLI => [(0, Str t), (2, ptr b2), (3, .int .i64 0), (4, ptr xb), (6, ptr ab), (7, .int .u64 n), (8, .int .u64 z.i)])
        (fun z w' => (z.i ≤ n ∧ rdI (n - z.i) (z.s, z.l) = rdI n (s2, []) ∧ z.s.t.length ≤ p.length ∧ z.l.length + z.s.t.length ≤ p.length + bitB z.s.bad) ∧ ∃ L, Vec T_int 1 z.a z.l.length z.c (z.l.map intV) L ∧ St w [] ((ab, repO (codeR code z.l) z.a z.c) :: (inH xb rb z.s ++ (L ++ [(b2, repO zRep none 0)]))) w') (fun z => n - z.i) ⟨0, s2, [], none, 0⟩
        ⟨rfl, rfl, rfl, rfl, rfl, rfl, rfl, trivial⟩ ⟨hj, [], Vec.nil, hS⟩ ?_
      clear hS hj hS'
      generalize hX : rdI n (s2, []) = X
      rintro ⟨i, ⟨t1, bd⟩, l, a, c⟩ w5 ⟨⟨hi, hx, htl, hsz⟩, L, hv, hS⟩
      simp only at hi hx htl hsz hv hS ⊢
      have hll : l.length ≤ p.length + 1 := by have := bitB_le bd; omega
      have hgo : i < n ∧ bd = false ∨ (⟨t1, bd⟩, l) = X ∧ (i = n ∨ bd = true) := by
        by_cases hin : i < n
        · cases bd with
          | true => rw [rdI_halt _ _ _ rfl] at hx; exact .inr ⟨hx, .inr rfl⟩
          | false => exact .inl ⟨hin, rfl⟩
        · rw [show n - i = 0 by omega] at hx; exact .inr ⟨hx, .inl (by omega)⟩
      rcases hgo with ⟨hin, rfl⟩ | ⟨hX2, hend⟩
      · have hb0 : bitB false = 0 := rfl
        have he0 : eN false = 0 := rfl
        rw [show n - i = (n - (i + 1)) + 1 by omega, rdI_go _ _ _ rfl] at hx
        have hsl := rbInt_dec (s := ⟨t1, false⟩) rfl
        have hst := rbInt_t ⟨t1, false⟩
        simp only at hsl hst hx
        repeat (first | refine SemW.run tblOk ?_ | refine jA (by omega) ?_ | refine jB (by omega) ?_ | refine jC (by omega) ?_ | refine jD (by omega) ?_ | refine jE rfl ?_ | refine jF (by omega) ?_ | (refine jG ?_; first | with_reducible (first | refine jH ?_ | refine jI ?_ | refine jJ ?_ | refine jK ?_ | refine jL ?_) | refine jM (by omega) ?_ | refine jN (by omega) ?_ | with_reducible refine jM rfl ?_ | refine jM (by assumption) ?_ | refine jN (by assumption) ?_ | refine jM (by decide) ?_ | refine jN (by decide) ?_) | refine jF (ptr_ok tblOk rfl rfl) ?_ | refine jO (fun _ => by kernel_rfl) ?_ | refine jF (by decide) ?_ | refine hS.ld rfl ?_ | refine hS.ldn rfl ?_ | (refine hS.st rfl rfl ?_; intro _ hS))
        refine SemW.draw tblOk mixed (fun w' => St w [] [(ab, repO (codeR code l) a c)] w') [7] [0, 1, 2, 3, 4, 5, 6, 7] (by kernel_rfl) (hS.drew.sub (List.Sublist.cons_cons _ (List.nil_sublist _))) ?_
        have hF := hS.drew
        have hS : St w [] [(ab, repO (codeR code l) a c)] _ := hF.sub (List.Sublist.cons_cons _ (List.nil_sublist _))
        repeat (first | refine SemW.run tblOk ?_ | refine jA (by omega) ?_ | refine jB (by omega) ?_ | refine jC (by omega) ?_ | refine jD (by omega) ?_ | refine jE rfl ?_ | refine jF (by omega) ?_ | (refine jG ?_; first | with_reducible (first | refine jH ?_ | refine jI ?_ | refine jJ ?_ | refine jK ?_ | refine jL ?_) | refine jM (by omega) ?_ | refine jN (by omega) ?_ | with_reducible refine jM rfl ?_ | refine jM (by assumption) ?_ | refine jN (by assumption) ?_ | refine jM (by decide) ?_ | refine jN (by decide) ?_) | refine jF (ptr_ok tblOk rfl rfl) ?_ | refine jO (fun _ => by kernel_rfl) ?_ | refine jF (by decide) ?_ | refine hS.ldC rfl ?_ | refine hS.ldnC rfl ?_)
        refine Cl.mono (in_int (s := ⟨t1, false⟩) (hF.part (L := inH xb rb ⟨t1, false⟩)) (by simp only; omega)) ?_
        rintro _ w6 ⟨rfl, hS'⟩
        have hF := hF.call (L := inH xb rb ⟨t1, false⟩) hS'
        refine Chk.mk (hF.sub (List.Sublist.cons_cons _ (List.nil_sublist _))) ?_
        generalize rbInt ⟨t1, false⟩ = y at hF hsl hst hx ⊢
        obtain ⟨z, s3⟩ := y
        simp only at hF hsl hst hx ⊢
        repeat (first | refine SemW.run tblOk ?_ | refine jA (by omega) ?_ | refine jB (by omega) ?_ | refine jC (by omega) ?_ | refine jD (by omega) ?_ | refine jE rfl ?_ | refine jF (by omega) ?_ | (refine jG ?_; first | with_reducible (first | refine jH ?_ | refine jI ?_ | refine jJ ?_ | refine jK ?_ | refine jL ?_) | refine jM (by omega) ?_ | refine jN (by omega) ?_ | with_reducible refine jM rfl ?_ | refine jM (by assumption) ?_ | refine jN (by assumption) ?_ | refine jM (by decide) ?_ | refine jN (by decide) ?_) | refine jF (ptr_ok tblOk rfl rfl) ?_ | refine jO (fun _ => by kernel_rfl) ?_ | refine jF (by decide) ?_ | refine hS.ldC rfl ?_ | refine hS.ldnC rfl ?_)
        refine hF.al ?_
        intro r w7 _ hF
        refine Chk.mk (hF.sub (List.Sublist.cons _ (List.Sublist.cons_cons _ (List.nil_sublist _)))) ?_
        repeat (first | refine SemW.run tblOk ?_ | refine jA (by omega) ?_ | refine jB (by omega) ?_ | refine jC (by omega) ?_ | refine jD (by omega) ?_ | refine jE rfl ?_ | refine jF (by omega) ?_ | (refine jG ?_; first | with_reducible (first | refine jH ?_ | refine jI ?_ | refine jJ ?_ | refine jK ?_ | refine jL ?_) | refine jM (by omega) ?_ | refine jN (by omega) ?_ | with_reducible refine jM rfl ?_ | refine jM (by assumption) ?_ | refine jN (by assumption) ?_ | refine jM (by decide) ?_ | refine jN (by decide) ?_) | refine jF (ptr_ok tblOk rfl rfl) ?_ | refine jO (fun _ => by kernel_rfl) ?_ | refine jF (by decide) ?_ | refine hS.ldC rfl ?_ | refine hS.ldnC rfl ?_)
        refine St.app (sz := 1) (m := 1) tblOk rfl rfl rfl rfl hF hv (news := [intV z]) rfl (by have := hF.arr (b := r) (T' := []) (by simp); exact this) rfl (by show (_ + _) * 8 ≤ _; omega) (by omega) ?_
        intro a2 c2 L2 w9 hv hF
        refine Chk.mk (hF.sub (List.Sublist.cons _ (List.Sublist.cons_cons _ (List.nil_sublist _)))) ?_
        have e9 : l.map intV ++ [intV z] = (l ++ [z]).map intV := by simp
        have e8 : l.length + 1 = (l ++ [z]).length := by simp
        rw [e9, e8] at hv
        rw [e8]
        repeat (first | refine SemW.run tblOk ?_ | refine jA (by omega) ?_ | refine jB (by omega) ?_ | refine jC (by omega) ?_ | refine jD (by omega) ?_ | refine jE rfl ?_ | refine jF (by omega) ?_ | (refine jG ?_; first | with_reducible (first | refine jH ?_ | refine jI ?_ | refine jJ ?_ | refine jK ?_ | refine jL ?_) | refine jM (by omega) ?_ | refine jN (by omega) ?_ | with_reducible refine jM rfl ?_ | refine jM (by assumption) ?_ | refine jN (by assumption) ?_ | refine jM (by decide) ?_ | refine jN (by decide) ?_) | refine jF (ptr_ok tblOk rfl rfl) ?_ | refine jO (fun _ => by kernel_rfl) ?_ | refine jF (by decide) ?_ | refine hS.ldC rfl ?_ | refine hS.ldnC rfl ?_)
        refine hF.st rfl rfl ?_
        intro _ hS
        repeat (first | refine SemW.run tblOk ?_ | refine jA (by omega) ?_ | refine jB (by omega) ?_ | refine jC (by omega) ?_ | refine jD (by omega) ?_ | refine jE rfl ?_ | refine jF (by omega) ?_ | (refine jG ?_; first | with_reducible (first | refine jH ?_ | refine jI ?_ | refine jJ ?_ | refine jK ?_ | refine jL ?_) | refine jM (by omega) ?_ | refine jN (by omega) ?_ | with_reducible refine jM rfl ?_ | refine jM (by assumption) ?_ | refine jN (by assumption) ?_ | refine jM (by decide) ?_ | refine jN (by decide) ?_) | refine jF (ptr_ok tblOk rfl rfl) ?_ | refine jO (fun _ => by kernel_rfl) ?_ | refine jF (by decide) ?_ | refine hS.ld rfl ?_ | refine hS.ldn rfl ?_ | (refine hS.st rfl rfl ?_; intro _ hS))
        refine ⟨⟨i + 1, s3, l ++ [z], a2, c2⟩, ⟨rfl, rfl, rfl, rfl, rfl, rfl, rfl, trivial⟩, ⟨⟨by simp only; omega, hx, by simp only; omega, by simp only [List.length_append, List.length_singleton]; omega⟩, L2, hv, hS.sub (List.sublist_cons_self _ _)⟩, by simp only; omega⟩
      · rcases hend with rfl | rfl
        · repeat (first | refine SemW.run tblOk ?_ | refine jA (by omega) ?_ | refine jB (by omega) ?_ | refine jC (by omega) ?_ | refine jD (by omega) ?_ | refine jE rfl ?_ | refine jF (by omega) ?_ | (refine jG ?_; first | with_reducible (first | refine jH ?_ | refine jI ?_ | refine jJ ?_ | refine jK ?_ | refine jL ?_) | refine jM (by omega) ?_ | refine jN (by omega) ?_ | with_reducible refine jM rfl ?_ | refine jM (by assumption) ?_ | refine jN (by assumption) ?_ | refine jM (by decide) ?_ | refine jN (by decide) ?_) | refine jF (ptr_ok tblOk rfl rfl) ?_ | refine jO (fun _ => by kernel_rfl) ?_ | refine jF (by decide) ?_ | refine hS.ld rfl ?_ | refine hS.ldn rfl ?_ | (refine hS.st rfl rfl ?_; intro _ hS))
          exact ⟨rfl, ⟨i, ⟨t1, bd⟩, l, a, c⟩, ⟨rfl, rfl, rfl, rfl, rfl, trivial⟩, ⟨hX2, htl, hll⟩, L, hv, hS⟩
        · have he1 : eN true = 1 := rfl
          by_cases hin : i < n
          · repeat (first | refine SemW.run tblOk ?_ | refine jA (by omega) ?_ | refine jB (by omega) ?_ | refine jC (by omega) ?_ | refine jD (by omega) ?_ | refine jE rfl ?_ | refine jF (by omega) ?_ | (refine jG ?_; first | with_reducible (first | refine jH ?_ | refine jI ?_ | refine jJ ?_ | refine jK ?_ | refine jL ?_) | refine jM (by omega) ?_ | refine jN (by omega) ?_ | with_reducible refine jM rfl ?_ | refine jM (by assumption) ?_ | refine jN (by assumption) ?_ | refine jM (by decide) ?_ | refine jN (by decide) ?_) | refine jF (ptr_ok tblOk rfl rfl) ?_ | refine jO (fun _ => by kernel_rfl) ?_ | refine jF (by decide) ?_ | refine hS.ld rfl ?_ | refine hS.ldn rfl ?_ | (refine hS.st rfl rfl ?_; intro _ hS))
            refine BrG.neg (by show ¬ (1 : Int) = 0; decide) ?_
            repeat (first | refine SemW.run tblOk ?_ | refine jA (by omega) ?_ | refine jB (by omega) ?_ | refine jC (by omega) ?_ | refine jD (by omega) ?_ | refine jE rfl ?_ | refine jF (by omega) ?_ | (refine jG ?_; first | with_reducible (first | refine jH ?_ | refine jI ?_ | refine jJ ?_ | refine jK ?_ | refine jL ?_) | refine jM (by omega) ?_ | refine jN (by omega) ?_ | with_reducible refine jM rfl ?_ | refine jM (by assumption) ?_ | refine jN (by assumption) ?_ | refine jM (by decide) ?_ | refine jN (by decide) ?_) | refine jF (ptr_ok tblOk rfl rfl) ?_ | refine jO (fun _ => by kernel_rfl) ?_ | refine jF (by decide) ?_ | refine hS.ld rfl ?_ | refine hS.ldn rfl ?_ | (refine hS.st rfl rfl ?_; intro _ hS))
            exact ⟨rfl, ⟨i, ⟨t1, true⟩, l, a, c⟩, ⟨rfl, rfl, rfl, rfl, rfl, trivial⟩, ⟨hX2, htl, hll⟩, L, hv, hS⟩
          · repeat (first | refine SemW.run tblOk ?_ | refine jA (by omega) ?_ | refine jB (by omega) ?_ | refine jC (by omega) ?_ | refine jD (by omega) ?_ | refine jE rfl ?_ | refine jF (by omega) ?_ | (refine jG ?_; first | with_reducible (first | refine jH ?_ | refine jI ?_ | refine jJ ?_ | refine jK ?_ | refine jL ?_) | refine jM (by omega) ?_ | refine jN (by omega) ?_ | with_reducible refine jM rfl ?_ | refine jM (by assumption) ?_ | refine jN (by assumption) ?_ | refine jM (by decide) ?_ | refine jN (by decide) ?_) | refine jF (ptr_ok tblOk rfl rfl) ?_ | refine jO (fun _ => by kernel_rfl) ?_ | refine jF (by decide) ?_ | refine hS.ld rfl ?_ | refine hS.ldn rfl ?_ | (refine hS.st rfl rfl ?_; intro _ hS))
            exact ⟨rfl, ⟨i, ⟨t1, true⟩, l, a, c⟩, ⟨rfl, rfl, rfl, rfl, rfl, trivial⟩, ⟨hX2, htl, hll⟩, L, hv, hS⟩
    clear hS hj
    rintro ⟨i, s, l, a, c⟩ w6 ⟨⟨hz, htl, hll⟩, L, hv, hS⟩
    simp only at hz htl hll hv hS ⊢
    have hlo : ∀ z ∈ l, i64ok z := by
      have := rdI_oks n s2 [] (by nofun)
      rw [← hz] at this; exact this
    rw [← hz]
    simp only
    clear hz
    repeat (first | refine SemW.run tblOk ?_ | refine jA (by omega) ?_ | refine jB (by omega) ?_ | refine jC (by omega) ?_ | refine jD (by omega) ?_ | refine jE rfl ?_ | refine jF (by omega) ?_ | (refine jG ?_; first | with_reducible (first | refine jH ?_ | refine jI ?_ | refine jJ ?_ | refine jK ?_ | refine jL ?_) | refine jM (by omega) ?_ | refine jN (by omega) ?_ | with_reducible refine jM rfl ?_ | refine jM (by assumption) ?_ | refine jN (by assumption) ?_ | refine jM (by decide) ?_ | refine jN (by decide) ?_) | refine jF (ptr_ok tblOk rfl rfl) ?_ | refine jO (fun _ => by kernel_rfl) ?_ | refine jF (by decide) ?_ | refine hS.ld rfl ?_ | refine hS.ldn rfl ?_ | (refine hS.st rfl rfl ?_; intro _ hS))
    refine StopW.join (fun z : LI => [(0, Str t), (2, ptr b2), (3, .int .i64 0), (4, ptr xb), (6, ptr ab)])
      (fun z w' => ((z.l, z.s) = wInts 4 s ∧ z.s.t.length ≤ p.length ∧ z.l.length = 4) ∧ St w [] ((ab, repO ⟨code, l, z.l.getD 0 0, z.l.getD 1 0, z.l.getD 2 0, z.l.getD 3 0, false, zPax, []⟩ a c) :: (inH xb rb z.s ++ (L ++ [(b2, repO zRep none 0)]))) w') ?_ ?_
    · refine SemW.loop (fun z : LI => [(0, Str t), (2, ptr b2), (3, .int .i64 0), (4, ptr xb), (6, ptr ab), (49, .int .i64 z.k)])
        (fun z w' => ((z.l.length = z.k ∧ z.k ≤ 4) ∧ (z.l ++ (wInts (4 - z.l.length) z.s).1, (wInts (4 - z.l.length) z.s).2) = wInts 4 s ∧ z.s.t.length ≤ p.length) ∧ St w [] ((ab, repO ⟨code, l, z.l.getD 0 0, z.l.getD 1 0, z.l.getD 2 0, z.l.getD 3 0, false, zPax, []⟩ a c) :: (inH xb rb z.s ++ (L ++ [(b2, repO zRep none 0)]))) w') (fun z => 4 - z.k) ⟨0, [], s⟩
        ⟨rfl, rfl, rfl, rfl, rfl, rfl, trivial⟩ ⟨⟨⟨rfl, Nat.zero_le _⟩, rfl, htl⟩, hS⟩ ?_
      clear hS
      rintro ⟨k, x, s3⟩ w7 ⟨⟨⟨hxk, hk4⟩, hx, hs3⟩, hS⟩
      simp only at hxk hk4 hx hs3 hS ⊢
      by_cases hk : k < 4
      · have hx2 := wInts_step (n := 4) (by omega) hx
        have ht3 := rbInt_t s3
        repeat (first | refine SemW.run tblOk ?_ | refine jA (by omega) ?_ | refine jB (by omega) ?_ | refine jC (by omega) ?_ | refine jD (by omega) ?_ | refine jE rfl ?_ | refine jF (by omega) ?_ | (refine jG ?_; first | with_reducible (first | refine jH ?_ | refine jI ?_ | refine jJ ?_ | refine jK ?_ | refine jL ?_) | refine jM (by omega) ?_ | refine jN (by omega) ?_ | with_reducible refine jM rfl ?_ | refine jM (by assumption) ?_ | refine jN (by assumption) ?_ | refine jM (by decide) ?_ | refine jN (by decide) ?_) | refine jF (ptr_ok tblOk rfl rfl) ?_ | refine jO (fun _ => by kernel_rfl) ?_ | refine jF (by decide) ?_ | refine hS.ld rfl ?_ | refine hS.ldn rfl ?_ | (refine hS.st rfl rfl ?_; intro _ hS))
        refine Cl.mono (in_int (s := s3) (hS.part (L := inH xb rb (s3))) (by omega)) ?_
        rintro _ w8 ⟨rfl, hS'⟩
        have hS := hS.call (L := inH xb rb (s3)) hS'
        generalize rbInt s3 = y at hS hx2 ht3 ⊢
        obtain ⟨v, s4⟩ := y
        simp only at hS hx2 ht3 ⊢
        rcases (show k = 0 ∨ k = 1 ∨ k = 2 ∨ k = 3 by omega) with rfl | rfl | rfl | rfl
        · obtain rfl := List.length_eq_zero_iff.1 hxk
          repeat (first | refine SemW.run tblOk ?_ | refine jA (by omega) ?_ | refine jB (by omega) ?_ | refine jC (by omega) ?_ | refine jD (by omega) ?_ | refine jE rfl ?_ | refine jF (by omega) ?_ | (refine jG ?_; first | with_reducible (first | refine jH ?_ | refine jI ?_ | refine jJ ?_ | refine jK ?_ | refine jL ?_) | refine jM (by omega) ?_ | refine jN (by omega) ?_ | with_reducible refine jM rfl ?_ | refine jM (by assumption) ?_ | refine jN (by assumption) ?_ | refine jM (by decide) ?_ | refine jN (by decide) ?_) | refine jF (ptr_ok tblOk rfl rfl) ?_ | refine jO (fun _ => by kernel_rfl) ?_ | refine jF (by decide) ?_ | refine hS.ld rfl ?_ | refine hS.ldn rfl ?_ | (refine hS.st rfl rfl ?_; intro _ hS))
          exact ⟨⟨1, [v], s4⟩, ⟨rfl, rfl, rfl, rfl, rfl, rfl, trivial⟩, ⟨⟨⟨rfl, by simp only; omega⟩, hx2, by simp only; omega⟩, hS⟩, by simp only; omega⟩
        · obtain ⟨y0, rfl⟩ : ∃ a, x = [a] := ⟨_, lst1 0 hxk⟩
          repeat (first | refine SemW.run tblOk ?_ | refine jA (by omega) ?_ | refine jB (by omega) ?_ | refine jC (by omega) ?_ | refine jD (by omega) ?_ | refine jE rfl ?_ | refine jF (by omega) ?_ | (refine jG ?_; first | with_reducible (first | refine jH ?_ | refine jI ?_ | refine jJ ?_ | refine jK ?_ | refine jL ?_) | refine jM (by omega) ?_ | refine jN (by omega) ?_ | with_reducible refine jM rfl ?_ | refine jM (by assumption) ?_ | refine jN (by assumption) ?_ | refine jM (by decide) ?_ | refine jN (by decide) ?_) | refine jF (ptr_ok tblOk rfl rfl) ?_ | refine jO (fun _ => by kernel_rfl) ?_ | refine jF (by decide) ?_ | refine hS.ld rfl ?_ | refine hS.ldn rfl ?_ | (refine hS.st rfl rfl ?_; intro _ hS))
          exact ⟨⟨2, [y0, v], s4⟩, ⟨rfl, rfl, rfl, rfl, rfl, rfl, trivial⟩, ⟨⟨⟨rfl, by simp only; omega⟩, hx2, by simp only; omega⟩, hS⟩, by simp only; omega⟩
        · obtain ⟨y0, y1, rfl⟩ : ∃ a b, x = [a, b] := ⟨_, _, lst2 0 hxk⟩
          repeat (first | refine SemW.run tblOk ?_ | refine jA (by omega) ?_ | refine jB (by omega) ?_ | refine jC (by omega) ?_ | refine jD (by omega) ?_ | refine jE rfl ?_ | refine jF (by omega) ?_ | (refine jG ?_; first | with_reducible (first | refine jH ?_ | refine jI ?_ | refine jJ ?_ | refine jK ?_ | refine jL ?_) | refine jM (by omega) ?_ | refine jN (by omega) ?_ | with_reducible refine jM rfl ?_ | refine jM (by assumption) ?_ | refine jN (by assumption) ?_ | refine jM (by decide) ?_ | refine jN (by decide) ?_) | refine jF (ptr_ok tblOk rfl rfl) ?_ | refine jO (fun _ => by kernel_rfl) ?_ | refine jF (by decide) ?_ | refine hS.ld rfl ?_ | refine hS.ldn rfl ?_ | (refine hS.st rfl rfl ?_; intro _ hS))
          exact ⟨⟨3, [y0, y1, v], s4⟩, ⟨rfl, rfl, rfl, rfl, rfl, rfl, trivial⟩, ⟨⟨⟨rfl, by simp only; omega⟩, hx2, by simp only; omega⟩, hS⟩, by simp only; omega⟩
        · obtain ⟨y0, y1, y2, rfl⟩ : ∃ a b c, x = [a, b, c] := ⟨_, _, _, lst3 0 hxk⟩
          repeat (first | refine SemW.run tblOk ?_ | refine jA (by omega) ?_ | refine jB (by omega) ?_ | refine jC (by omega) ?_ | refine jD (by omega) ?_ | refine jE rfl ?_ | refine jF (by omega) ?_ | (refine jG ?_; first | with_reducible (first | refine jH ?_ | refine jI ?_ | refine jJ ?_ | refine jK ?_ | refine jL ?_) | refine jM (by omega) ?_ | refine jN (by omega) ?_ | with_reducible refine jM rfl ?_ | refine jM (by assumption) ?_ | refine jN (by assumption) ?_ | refine jM (by decide) ?_ | refine jN (by decide) ?_) | refine jF (ptr_ok tblOk rfl rfl) ?_ | refine jO (fun _ => by kernel_rfl) ?_ | refine jF (by decide) ?_ | refine hS.ld rfl ?_ | refine hS.ldn rfl ?_ | (refine hS.st rfl rfl ?_; intro _ hS))
          exact ⟨⟨4, [y0, y1, y2, v], s4⟩, ⟨rfl, rfl, rfl, rfl, rfl, rfl, trivial⟩, ⟨⟨⟨rfl, by simp only; omega⟩, hx2, by simp only; omega⟩, hS⟩, by simp only; omega⟩
      · have hk4 : k = 4 := by omega
        rw [show 4 - x.length = 0 by omega] at hx
        have hx : (x, s3) = wInts 4 s := by simpa [wInts] using hx
        repeat (first | refine SemW.run tblOk ?_ | refine jA (by omega) ?_ | refine jB (by omega) ?_ | refine jC (by omega) ?_ | refine jD (by omega) ?_ | refine jE rfl ?_ | refine jF (by omega) ?_ | (refine jG ?_; first | with_reducible (first | refine jH ?_ | refine jI ?_ | refine jJ ?_ | refine jK ?_ | refine jL ?_) | refine jM (by omega) ?_ | refine jN (by omega) ?_ | with_reducible refine jM rfl ?_ | refine jM (by assumption) ?_ | refine jN (by assumption) ?_ | refine jM (by decide) ?_ | refine jN (by decide) ?_) | refine jF (ptr_ok tblOk rfl rfl) ?_ | refine jO (fun _ => by kernel_rfl) ?_ | refine jF (by decide) ?_ | refine hS.ld rfl ?_ | refine hS.ldn rfl ?_ | (refine hS.st rfl rfl ?_; intro _ hS))
        exact ⟨rfl, ⟨k, x, s3⟩, ⟨rfl, rfl, rfl, rfl, rfl, trivial⟩, ⟨hx, hs3, by simp only; omega⟩, hS⟩
    clear hS
    rintro ⟨k, z, s4⟩ w7 ⟨⟨hx, hs4, hz4⟩, hS⟩
    simp only at hx hs4 hz4 hS ⊢
    have hzo : ∀ y ∈ z, i64ok y := by
      have := wInts_ok 4 s
      rw [← hx] at this; exact this
    rw [← hx]
    simp only
    clear hx
    have ht5 := rbNum_t s4
    repeat (first | refine SemW.run tblOk ?_ | refine jA (by omega) ?_ | refine jB (by omega) ?_ | refine jC (by omega) ?_ | refine jD (by omega) ?_ | refine jE rfl ?_ | refine jF (by omega) ?_ | (refine jG ?_; first | with_reducible (first | refine jH ?_ | refine jI ?_ | refine jJ ?_ | refine jK ?_ | refine jL ?_) | refine jM (by omega) ?_ | refine jN (by omega) ?_ | with_reducible refine jM rfl ?_ | refine jM (by assumption) ?_ | refine jN (by assumption) ?_ | refine jM (by decide) ?_ | refine jN (by decide) ?_) | refine jF (ptr_ok tblOk rfl rfl) ?_ | refine jO (fun _ => by kernel_rfl) ?_ | refine jF (by decide) ?_ | refine hS.ld rfl ?_ | refine hS.ldn rfl ?_ | (refine hS.st rfl rfl ?_; intro _ hS))
    refine Cl.mono (in_num (s := s4) (hS.part (L := inH xb rb (s4))) (by omega)) ?_
    rintro _ w8 ⟨rfl, hS'⟩
    have hS := hS.call (L := inH xb rb (s4)) hS'
    generalize rbNum s4 = y at hS ht5 ⊢
    obtain ⟨o, s5⟩ := y
    simp only at hS ht5 ⊢
    have ht6 := rbInt_t s5
    repeat (first | refine SemW.run tblOk ?_ | refine jA (by omega) ?_ | refine jB (by omega) ?_ | refine jC (by omega) ?_ | refine jD (by omega) ?_ | refine jE rfl ?_ | refine jF (by omega) ?_ | (refine jG ?_; first | with_reducible (first | refine jH ?_ | refine jI ?_ | refine jJ ?_ | refine jK ?_ | refine jL ?_) | refine jM (by omega) ?_ | refine jN (by omega) ?_ | with_reducible refine jM rfl ?_ | refine jM (by assumption) ?_ | refine jN (by assumption) ?_ | refine jM (by decide) ?_ | refine jN (by decide) ?_) | refine jF (ptr_ok tblOk rfl rfl) ?_ | refine jO (fun _ => by kernel_rfl) ?_ | refine jF (by decide) ?_ | refine hS.ld rfl ?_ | refine hS.ldn rfl ?_ | (refine hS.st rfl rfl ?_; intro _ hS))
    refine Cl.mono (in_int (s := s5) (hS.part (L := inH xb rb (s5))) (by omega)) ?_
    rintro _ w9 ⟨rfl, hS'⟩
    have hS := hS.call (L := inH xb rb (s5)) hS'
    have hio := rbInt_ok' s5
    generalize rbInt s5 = y at hS ht6 hio ⊢
    obtain ⟨id, t6, b6⟩ := y
    simp only at hS ht6 hio ⊢
    repeat (first | refine SemW.run tblOk ?_ | refine jA (by omega) ?_ | refine jB (by omega) ?_ | refine jC (by omega) ?_ | refine jD (by omega) ?_ | refine jE rfl ?_ | refine jF (by omega) ?_ | (refine jG ?_; first | with_reducible (first | refine jH ?_ | refine jI ?_ | refine jJ ?_ | refine jK ?_ | refine jL ?_) | refine jM (by omega) ?_ | refine jN (by omega) ?_ | with_reducible refine jM rfl ?_ | refine jM (by assumption) ?_ | refine jN (by assumption) ?_ | refine jM (by decide) ?_ | refine jN (by decide) ?_) | refine jF (ptr_ok tblOk rfl rfl) ?_ | refine jO (fun _ => by kernel_rfl) ?_ | refine jF (by decide) ?_ | refine hS.ld rfl ?_ | refine hS.ldn rfl ?_ | (refine hS.st rfl rfl ?_; intro _ hS))
    refine Cl.mono (ReadPax_spec (t := t6) (hS.part (L := [(rb, rdC' t6)])) (by omega) (hE.keep hS (by simp) (by simp))) ?_
    rintro _ w10 ⟨e, rfl, he, hS'⟩
    have hS := hS.call (L := [(rb, rdC' t6)]) hS'
    rw [lPax_id t6 id]
    have ht7 := lPax_t t6
    have hpo := lPax_ok t6 ok0
    generalize lPax t6 0 = y at hS he ht7 hpo ⊢
    obtain ⟨px, s7⟩ := y
    simp only at hS he ht7 hpo ⊢
    repeat (first | refine SemW.run tblOk ?_ | refine jA (by omega) ?_ | refine jB (by omega) ?_ | refine jC (by omega) ?_ | refine jD (by omega) ?_ | refine jE rfl ?_ | refine jF (by omega) ?_ | (refine jG ?_; first | with_reducible (first | refine jH ?_ | refine jI ?_ | refine jJ ?_ | refine jK ?_ | refine jL ?_) | refine jM (by omega) ?_ | refine jN (by omega) ?_ | with_reducible refine jM rfl ?_ | refine jM (by assumption) ?_ | refine jN (by assumption) ?_ | refine jM (by decide) ?_ | refine jN (by decide) ?_) | refine jF (ptr_ok tblOk rfl rfl) ?_ | refine jO (fun _ => by kernel_rfl) ?_ | refine jF (by decide) ?_ | refine hS.ld rfl ?_ | refine hS.ldn rfl ?_ | (refine hS.st rfl rfl ?_; intro _ hS))
    refine hS.al ?_
    intro pb w11 _ hS
    repeat (first | refine SemW.run tblOk ?_ | refine jA (by omega) ?_ | refine jB (by omega) ?_ | refine jC (by omega) ?_ | refine jD (by omega) ?_ | refine jE rfl ?_ | refine jF (by omega) ?_ | (refine jG ?_; first | with_reducible (first | refine jH ?_ | refine jI ?_ | refine jJ ?_ | refine jK ?_ | refine jL ?_) | refine jM (by omega) ?_ | refine jN (by omega) ?_ | with_reducible refine jM rfl ?_ | refine jM (by assumption) ?_ | refine jN (by assumption) ?_ | refine jM (by decide) ?_ | refine jN (by decide) ?_) | refine jF (ptr_ok tblOk rfl rfl) ?_ | refine jO (fun _ => by kernel_rfl) ?_ | refine jF (by decide) ?_ | refine hS.ld rfl ?_ | refine hS.ldn rfl ?_ | (refine hS.st rfl rfl ?_; intro _ hS))
    have hob : decide ((o : Int) = 1) = decide (o = 1) := by rw [decide_eq_decide]; omega
    rw [hob] at hS
    have hS : St w [] ((pb, .cells ⟨paxC px⟩ T_api_Pax (0, 0)) :: (ab, repO ⟨code, l, z.getD 0 0, z.getD 1 0, z.getD 2 0, z.getD 3 0, decide (o = 1), { px with id := id }, []⟩ a c) :: (inH xb rb ⟨s7.t, b6⟩ ++ (L ++ [(b2, repO zRep none 0)]))) _ := hS
    repeat (first | refine SemW.run tblOk ?_ | refine jA (by omega) ?_ | refine jB (by omega) ?_ | refine jC (by omega) ?_ | refine jD (by omega) ?_ | refine jE rfl ?_ | refine jF (by omega) ?_ | (refine jG ?_; first | with_reducible (first | refine jH ?_ | refine jI ?_ | refine jJ ?_ | refine jK ?_ | refine jL ?_) | refine jM (by omega) ?_ | refine jN (by omega) ?_ | with_reducible refine jM rfl ?_ | refine jM (by assumption) ?_ | refine jN (by assumption) ?_ | refine jM (by decide) ?_ | refine jN (by decide) ?_) | refine jF (ptr_ok tblOk rfl rfl) ?_ | refine jO (fun _ => by kernel_rfl) ?_ | refine jF (by decide) ?_ | refine hS.ld rfl ?_ | refine hS.ldn rfl ?_ | (refine hS.st rfl rfl ?_; intro _ hS))
    refine Cl.mono (RTextE_spec (t := s7.t) (hS.part (L := [(rb, rdC' s7.t)])) (by omega)) ?_
    rintro _ w12 ⟨rfl, hS'⟩
    have hS := hS.call (L := [(rb, rdC' s7.t)]) hS'
    have htx := textO_len s7.t
    have hte := textO_err s7.t
    unfold wText
    generalize textO s7.t = y at hS htx hte ⊢
    obtain ⟨x, e2, t8⟩ := y
    simp only at hS htx hte ⊢
    repeat (first | refine jA (by omega) ?_ | refine jB (by omega) ?_ | refine jC (by omega) ?_ | refine jD (by omega) ?_ | refine jE rfl ?_ | refine jF (by omega) ?_ | (refine jG ?_; first | with_reducible (first | refine jH ?_ | refine jI ?_ | refine jJ ?_ | refine jK ?_ | refine jL ?_) | refine jM (by omega) ?_ | refine jN (by omega) ?_ | with_reducible refine jM rfl ?_ | refine jM (by assumption) ?_ | refine jN (by assumption) ?_ | refine jM (by decide) ?_ | refine jN (by decide) ?_) | refine jF (ptr_ok tblOk rfl rfl) ?_ | refine jO (fun _ => by kernel_rfl) ?_ | refine jF (by decide) ?_ | refine hS.ld rfl ?_ | refine hS.ldn rfl ?_ | (refine hS.st rfl rfl ?_; intro _ hS))
    refine SemW.run tblOk ?_
    repeat (first | refine jA (by omega) ?_ | refine jB (by omega) ?_ | refine jC (by omega) ?_ | refine jD (by omega) ?_ | refine jE rfl ?_ | refine jF (by omega) ?_ | (refine jG ?_; first | with_reducible (first | refine jH ?_ | refine jI ?_ | refine jJ ?_ | refine jK ?_ | refine jL ?_) | refine jM (by omega) ?_ | refine jN (by omega) ?_ | with_reducible refine jM rfl ?_ | refine jM (by assumption) ?_ | refine jN (by assumption) ?_ | refine jM (by decide) ?_ | refine jN (by decide) ?_) | refine jF (ptr_ok tblOk rfl rfl) ?_ | refine jO (fun _ => by kernel_rfl) ?_ | refine jF (by decide) ?_ | refine hS.ld rfl ?_ | refine hS.ldn rfl ?_ | (refine hS.st rfl rfl ?_; intro _ hS))
    obtain ⟨R, hR⟩ : ∃ R, R = (⟨code, l, z.getD 0 0, z.getD 1 0, z.getD 2 0, z.getD 3 0, decide (o = 1), { px with id := id }, x⟩ : ReplyM) := ⟨_, rfl⟩
    have hS : St w [] ((pb, .cells ⟨paxC px⟩ T_api_Pax (0, 0)) :: (ab, repO ⟨code, l, z.getD 0 0, z.getD 1 0, z.getD 2 0, z.getD 3 0, decide (o = 1), { px with id := id }, x⟩ a c) :: (inH xb rb ⟨t8, b6⟩ ++ (L ++ [(b2, repO zRep none 0)]))) _ := hS
    rw [← hR] at hS ⊢
    have hRi : R.ids = l := by rw [hR]
    have hRt : R.text = x := by rw [hR]
    have hRo : R.ok := by rw [hR]; exact ⟨hco, hlo, getD_ok hzo 0, getD_ok hzo 1, getD_ok hzo 2, getD_ok hzo 3, { hpo with id := hio }⟩
    clear hR
    rw [← hRi] at hv
    repeat (first | refine SemW.run tblOk ?_ | refine jA (by omega) ?_ | refine jB (by omega) ?_ | refine jC (by omega) ?_ | refine jD (by omega) ?_ | refine jE rfl ?_ | refine jF (by omega) ?_ | (refine jG ?_; first | with_reducible (first | refine jH ?_ | refine jI ?_ | refine jJ ?_ | refine jK ?_ | refine jL ?_) | refine jM (by omega) ?_ | refine jN (by omega) ?_ | with_reducible refine jM rfl ?_ | refine jM (by assumption) ?_ | refine jN (by assumption) ?_ | refine jM (by decide) ?_ | refine jN (by decide) ?_) | refine jF (ptr_ok tblOk rfl rfl) ?_ | refine jO (fun _ => by kernel_rfl) ?_ | refine jF (by decide) ?_ | refine hS.ld rfl ?_ | refine hS.ldn rfl ?_ | (refine hS.st rfl rfl ?_; intro _ hS))
    refine Cl.mono (Reply23_spec (r := R) (a := a) (cap := c) ⟨hv.arr (L := L) hS (by simp), hRo, by rw [hRi]; omega, by rw [hRt]; omega⟩) ?_
    rintro _ w13 ⟨rfl, hS'⟩
    have hS := hS.call0 hS'
    unfold checkR
    simp only
    have hframe : ∀ q : Bytes, q.length ≤ 65536 → (frameB q = t ↔ q = p) := fun q hq => by
      have hp := (openS_iff.1 ho).1
      constructor
      · intro h; rw [hp] at h; exact frameB_inj hq hpl h
      · rintro rfl; exact hp.symm
    have he0 : eN false = 0 := rfl
    have he1 : eN true = 1 := rfl
    cases b6 with
    | true =>
      rw [if_neg (by rintro ⟨h, -⟩; simp at h), repO_if]
      repeat (first | refine SemW.run tblOk ?_ | refine jA (by omega) ?_ | refine jB (by omega) ?_ | refine jC (by omega) ?_ | refine jD (by omega) ?_ | refine jE rfl ?_ | refine jF (by omega) ?_ | (refine jG ?_; first | with_reducible (first | refine jH ?_ | refine jI ?_ | refine jJ ?_ | refine jK ?_ | refine jL ?_) | refine jM (by omega) ?_ | refine jN (by omega) ?_ | with_reducible refine jM rfl ?_ | refine jM (by assumption) ?_ | refine jN (by assumption) ?_ | refine jM (by decide) ?_ | refine jN (by decide) ?_) | refine jF (ptr_ok tblOk rfl rfl) ?_ | refine jO (fun _ => by kernel_rfl) ?_ | refine jF (by decide) ?_ | refine hS.ld rfl ?_ | refine hS.ldn rfl ?_ | (refine hS.st rfl rfl ?_; intro _ hS))
      refine BrG.neg (by show ¬ (1 : Int) = 0; decide) ?_
      repeat (first | refine SemW.run tblOk ?_ | refine jA (by omega) ?_ | refine jB (by omega) ?_ | refine jC (by omega) ?_ | refine jD (by omega) ?_ | refine jE rfl ?_ | refine jF (by omega) ?_ | (refine jG ?_; first | with_reducible (first | refine jH ?_ | refine jI ?_ | refine jJ ?_ | refine jK ?_ | refine jL ?_) | refine jM (by omega) ?_ | refine jN (by omega) ?_ | with_reducible refine jM rfl ?_ | refine jM (by assumption) ?_ | refine jN (by assumption) ?_ | refine jM (by decide) ?_ | refine jN (by decide) ?_) | refine jF (ptr_ok tblOk rfl rfl) ?_ | refine jO (fun _ => by kernel_rfl) ?_ | refine jF (by decide) ?_ | refine hS.ld rfl ?_ | refine hS.ldn rfl ?_ | (refine hS.st rfl rfl ?_; intro _ hS))
      exact ⟨rfl, hS.nil⟩
    | false =>
      by_cases hez : e = 0
      rotate_left
      · have h7 : s7.bad = true := by
          cases h : s7.bad with
          | true => rfl
          | false => exact absurd (he.2 h) hez
        rw [if_neg (by rintro ⟨h, -⟩; rw [h7] at h; simp at h), repO_if]
        repeat (first | refine SemW.run tblOk ?_ | refine jA (by omega) ?_ | refine jB (by omega) ?_ | refine jC (by omega) ?_ | refine jD (by omega) ?_ | refine jE rfl ?_ | refine jF (by omega) ?_ | (refine jG ?_; first | with_reducible (first | refine jH ?_ | refine jI ?_ | refine jJ ?_ | refine jK ?_ | refine jL ?_) | refine jM (by omega) ?_ | refine jN (by omega) ?_ | with_reducible refine jM rfl ?_ | refine jM (by assumption) ?_ | refine jN (by assumption) ?_ | refine jM (by decide) ?_ | refine jN (by decide) ?_) | refine jF (ptr_ok tblOk rfl rfl) ?_ | refine jO (fun _ => by kernel_rfl) ?_ | refine jF (by decide) ?_ | refine hS.ld rfl ?_ | refine hS.ldn rfl ?_ | (refine hS.st rfl rfl ?_; intro _ hS))
        exact ⟨rfl, hS.nil⟩
      have h7 := he.1 hez
      rcases hte with rfl | rfl
      rotate_left
      · rw [if_neg (by rintro ⟨h, -⟩; simp at h), repO_if]
        repeat (first | refine SemW.run tblOk ?_ | refine jA (by omega) ?_ | refine jB (by omega) ?_ | refine jC (by omega) ?_ | refine jD (by omega) ?_ | refine jE rfl ?_ | refine jF (by omega) ?_ | (refine jG ?_; first | with_reducible (first | refine jH ?_ | refine jI ?_ | refine jJ ?_ | refine jK ?_ | refine jL ?_) | refine jM (by omega) ?_ | refine jN (by omega) ?_ | with_reducible refine jM rfl ?_ | refine jM (by assumption) ?_ | refine jN (by assumption) ?_ | refine jM (by decide) ?_ | refine jN (by decide) ?_) | refine jF (ptr_ok tblOk rfl rfl) ?_ | refine jO (fun _ => by kernel_rfl) ?_ | refine jF (by decide) ?_ | refine hS.ld rfl ?_ | refine hS.ldn rfl ?_ | (refine hS.st rfl rfl ?_; intro _ hS))
        exact ⟨rfl, hS.nil⟩
      by_cases hg : RightR R ∧ (replyB R).length ≤ 65536
      rotate_left
      · rw [repE_not hg]
        rw [if_neg (by rintro ⟨-, h, h2⟩; exact hg ⟨h, by rw [h2]; exact hpl⟩)]
        repeat (first | refine SemW.run tblOk ?_ | refine jA (by omega) ?_ | refine jB (by omega) ?_ | refine jC (by omega) ?_ | refine jD (by omega) ?_ | refine jE rfl ?_ | refine jF (by omega) ?_ | (refine jG ?_; first | with_reducible (first | refine jH ?_ | refine jI ?_ | refine jJ ?_ | refine jK ?_ | refine jL ?_) | refine jM (by omega) ?_ | refine jN (by omega) ?_ | with_reducible refine jM rfl ?_ | refine jM (by assumption) ?_ | refine jN (by assumption) ?_ | refine jM (by decide) ?_ | refine jN (by decide) ?_) | refine jF (ptr_ok tblOk rfl rfl) ?_ | refine jO (fun _ => by kernel_rfl) ?_ | refine jF (by decide) ?_ | refine hS.ld rfl ?_ | refine hS.ldn rfl ?_ | (refine hS.st rfl rfl ?_; intro _ hS))
        exact ⟨rfl, hS.nil⟩
      rw [repE_of hg.1 hg.2]
      have hfr := hframe _ hg.2
      by_cases hq : replyB R = p
      · have hft := hfr.2 hq
        rw [if_pos ⟨by rw [h7]; rfl, hg.1, hq⟩]
        repeat (first | refine SemW.run tblOk ?_ | refine jA (by omega) ?_ | refine jB (by omega) ?_ | refine jC (by omega) ?_ | refine jD (by omega) ?_ | refine jE rfl ?_ | refine jF (by omega) ?_ | (refine jG ?_; first | with_reducible (first | refine jH ?_ | refine jI ?_ | refine jJ ?_ | refine jK ?_ | refine jL ?_) | refine jM (by omega) ?_ | refine jN (by omega) ?_ | with_reducible refine jM rfl ?_ | refine jM (by assumption) ?_ | refine jN (by assumption) ?_ | refine jM (by decide) ?_ | refine jN (by decide) ?_) | refine jF (ptr_ok tblOk rfl rfl) ?_ | refine jO (fun _ => by kernel_rfl) ?_ | refine jF (by decide) ?_ | refine hS.ld rfl ?_ | refine hS.ldn rfl ?_ | (refine hS.st rfl rfl ?_; intro _ hS))
        exact ⟨a, c, L, rfl, hv, hS.sub ((List.sublist_append_left L _).trans ((List.sublist_cons_self _ _).trans ((List.sublist_cons_self _ _).trans ((List.sublist_cons_self _ _).trans (List.sublist_cons_self _ _)))))⟩
      · have hft : ¬ frameB (replyB R) = t := fun h => hq (hfr.1 h)
        rw [if_neg (fun h => hq h.2.2)]
        repeat (first | refine SemW.run tblOk ?_ | refine jA (by omega) ?_ | refine jB (by omega) ?_ | refine jC (by omega) ?_ | refine jD (by omega) ?_ | refine jE rfl ?_ | refine jF (by omega) ?_ | (refine jG ?_; first | with_reducible (first | refine jH ?_ | refine jI ?_ | refine jJ ?_ | refine jK ?_ | refine jL ?_) | refine jM (by omega) ?_ | refine jN (by omega) ?_ | with_reducible refine jM rfl ?_ | refine jM (by assumption) ?_ | refine jN (by assumption) ?_ | refine jM (by decide) ?_ | refine jN (by decide) ?_) | refine jF (ptr_ok tblOk rfl rfl) ?_ | refine jO (fun _ => by kernel_rfl) ?_ | refine jF (by decide) ?_ | refine hS.ld rfl ?_ | refine hS.ldn rfl ?_ | (refine hS.st rfl rfl ?_; intro _ hS))
        exact ⟨rfl, hS.nil⟩
end Go.Proofs.YthpmmfapolcaiaaGreatDoor

/- tarmacref21.SameReply. -/
namespace Go.Proofs.YthpmmfapolcaiaaGreatDoor
open Go Go.Eng Go.Proofs
theorem beqB_dec (a b : Bool) : (a == b) = decide (a = b) := by cases a <;> cases b <;> rfl
theorem PaxM.ext' {a b : PaxM} (h0 : a.id = b.id) (h1 : a.flight = b.flight) (h2 : a.cab = b.cab) (h3 : a.fit = b.fit) (h4 : a.infant = b.infant) (h5 : a.vol = b.vol) (h6 : a.stb = b.stb) (h7 : a.cls = b.cls) (h8 : a.status = b.status) (h9 : a.tick = b.tick) (h10 : a.pass = b.pass) (h11 : a.num = b.num) (h12 : a.c = b.c) : a = b := by
  cases a; cases b
  simp only at h0 h1 h2 h3 h4 h5 h6 h7 h8 h9 h10 h11 h12
  subst h0; subst h1; subst h2; subst h3; subst h4; subst h5; subst h6; subst h7; subst h8; subst h9; subst h10; subst h11; subst h12
  rfl
instance : DecidableEq PaxM := fun a b =>
  if h : a.id = b.id ∧ a.flight = b.flight ∧ a.cab = b.cab ∧ a.fit = b.fit ∧ a.infant = b.infant ∧ a.vol = b.vol ∧ a.stb = b.stb ∧ a.cls = b.cls ∧ a.status = b.status ∧ a.tick = b.tick ∧ a.pass = b.pass ∧ a.num = b.num ∧ a.c = b.c then
    isTrue (by obtain ⟨h0, h1, h2, h3, h4, h5, h6, h7, h8, h9, h10, h11, h12⟩ := h; exact PaxM.ext' h0 h1 h2 h3 h4 h5 h6 h7 h8 h9 h10 h11 h12)
  else isFalse (fun e => h (by rw [e]; exact ⟨rfl, rfl, rfl, rfl, rfl, rfl, rfl, rfl, rfl, rfl, rfl, rfl, rfl⟩))
def samePax (x y : PaxM) : Bool := decide (x.id = y.id) && (decide (x.flight = y.flight) && ((decide (x.cab = y.cab) && (decide (x.fit = y.fit) && (decide (x.infant = y.infant) && true))) && (decide (x.vol = y.vol) && (decide (x.stb = y.stb) && (decide (x.cls = y.cls) && (decide (x.status = y.status) && (decide (x.tick = y.tick) && (decide (x.pass = y.pass) && (decide (x.num = y.num ∧ x.c = y.c) && true))))))))
  )
theorem samePax_eq (x y : PaxM) : samePax x y = decide (x = y) := by
  rw [Bool.eq_iff_iff]
  unfold samePax
  simp only [Bool.and_eq_true, decide_eq_true_eq, and_true]
  constructor
  · rintro ⟨h0, h1, ⟨h2, h3, h4⟩, h5, h6, h7, h8, h9, h10, h11, h12⟩
    exact PaxM.ext' h0 h1 h2 h3 h4 h5 h6 h7 h8 h9 h10 h11 h12
  · rintro rfl; simp
set_option maxRecDepth 4000 in
set_option maxHeartbeats 4000000 in
theorem eqPax (x y : PaxM) : EqV 3 Tryz.prog T_api_Pax (.agg ⟨paxC x⟩) (.agg ⟨paxC y⟩) (decide (x = y)) := by
  rw [← samePax_eq]
  unfold samePax
  refine EqV.struct (d := [(T_int, 0), (T_int, 1), (T_api_Who, 2), (T_bool, 5), (T_bool, 6), (T_int, 7), (T_int, 8), (T_int, 9), (T_int, 10), (T_api_Seat, 11)]) (by kernel_rfl) (by kernel_rfl) (by kernel_rfl) ?_
  refine EqFs.cons (PartIs.one tblOk rfl rfl rfl) (PartIs.one tblOk rfl rfl rfl) (EqV.int tblOk rfl rfl _ _) ?_
  refine EqFs.cons (PartIs.one tblOk rfl rfl rfl) (PartIs.one tblOk rfl rfl rfl) (EqV.int tblOk rfl rfl _ _) ?_
  refine EqFs.cons (PartIs.agg (vs := [.int .i64 x.cab, .bool x.fit, .bool x.infant]) tblOk rfl rfl rfl) (PartIs.agg (vs := [.int .i64 y.cab, .bool y.fit, .bool y.infant]) tblOk rfl rfl rfl) (eqWho _ _ _ _ _ _) ?_
  refine EqFs.cons (PartIs.one tblOk rfl rfl rfl) (PartIs.one tblOk rfl rfl rfl) (EqV.bool tblOk rfl rfl _ _) ?_
  refine EqFs.cons (PartIs.one tblOk rfl rfl rfl) (PartIs.one tblOk rfl rfl rfl) (EqV.bool tblOk rfl rfl _ _) ?_
  refine EqFs.cons (PartIs.one tblOk rfl rfl rfl) (PartIs.one tblOk rfl rfl rfl) (EqV.int tblOk rfl rfl _ _) ?_
  refine EqFs.cons (PartIs.one tblOk rfl rfl rfl) (PartIs.one tblOk rfl rfl rfl) (EqV.int tblOk rfl rfl _ _) ?_
  refine EqFs.cons (PartIs.one tblOk rfl rfl rfl) (PartIs.one tblOk rfl rfl rfl) (EqV.int tblOk rfl rfl _ _) ?_
  refine EqFs.cons (PartIs.one tblOk rfl rfl rfl) (PartIs.one tblOk rfl rfl rfl) (EqV.int tblOk rfl rfl _ _) ?_
  exact EqFs.cons (PartIs.agg (vs := [.int .i64 x.num, .int .u8 x.c]) tblOk rfl rfl rfl) (PartIs.agg (vs := [.int .i64 y.num, .int .u8 y.c]) tblOk rfl rfl rfl) (eqSeat _ _ _ _) EqFs.nil
theorem ReplyM.ext' {a b : ReplyM} (h0 : a.code = b.code) (h1 : a.ids = b.ids) (h2 : a.n0 = b.n0) (h3 : a.n1 = b.n1) (h4 : a.n2 = b.n2) (h5 : a.n3 = b.n3) (h6 : a.over = b.over) (h7 : a.pax = b.pax) (h8 : a.text = b.text) : a = b := by
  cases a; cases b
  simp only at h0 h1 h2 h3 h4 h5 h6 h7 h8
  subst h0; subst h1; subst h2; subst h3; subst h4; subst h5; subst h6; subst h7; subst h8
  rfl
instance : DecidableEq ReplyM := fun a b =>
  if h : a.code = b.code ∧ a.ids = b.ids ∧ a.n0 = b.n0 ∧ a.n1 = b.n1 ∧ a.n2 = b.n2 ∧ a.n3 = b.n3 ∧ a.over = b.over ∧ a.pax = b.pax ∧ a.text = b.text then
    isTrue (by obtain ⟨h0, h1, h2, h3, h4, h5, h6, h7, h8⟩ := h; exact ReplyM.ext' h0 h1 h2 h3 h4 h5 h6 h7 h8)
  else isFalse (fun e => h (by rw [e]; exact ⟨rfl, rfl, rfl, rfl, rfl, rfl, rfl, rfl, rfl⟩))
theorem sameRep_eq (x y : ReplyM) : decide (x = y) = (decide (x.code = y.code) && ((decide (x.n0 = y.n0) && (decide (x.n1 = y.n1) && (decide (x.n2 = y.n2) && (decide (x.n3 = y.n3) && true)))) && (decide (x.over = y.over) && (decide (x.pax = y.pax) && (decide (x.text = y.text) && decide (x.ids = y.ids)))))) := by
  rw [Bool.eq_iff_iff]
  simp only [Bool.and_eq_true, decide_eq_true_eq, and_true]
  constructor
  · rintro rfl; simp
  · rintro ⟨h0, ⟨h2, h3, h4, h5⟩, h6, h7, h8, h1⟩
    exact ReplyM.ext' h0 h1 h2 h3 h4 h5 h6 h7 h8
/-- What two replies that are compared need. -/
structure TwoRep (w : World) (x y : ReplyM) (a b : Option Addr) : Prop where
  hx : Arr w [] a (x.ids.map intV)
  hy : Arr w [] b (y.ids.map intV)
  len : x.ids.length ≤ 1099511627776
set_option maxRecDepth 4000 in
set_option maxHeartbeats 8000000 in
theorem SameReply_spec {w : World} {x y : ReplyM} {a b : Option Addr} {ca cb : Nat} (h : TwoRep w x y a b) :
    Cl Tryz.prog f_tarmacref21_SameReply [.agg ⟨replyC x a ca⟩, .agg ⟨replyC y b cb⟩] w fun v w' => v = .bool (decide (x = y)) ∧ St w [] [] w' := by
  have hS := St.start w
  have hl := h.len
  rw [sameRep_eq]
  refine en_tarmacref21_SameReply rfl ?_
  repeat (first | refine SemW.run tblOk ?_ | refine jA (by omega) ?_ | refine jB (by omega) ?_ | refine jC (by omega) ?_ | refine jD (by omega) ?_ | refine jE rfl ?_ | refine jF (by omega) ?_ | (refine jG ?_; first | with_reducible (first | refine jH ?_ | refine jI ?_ | refine jJ ?_ | refine jK ?_ | refine jL ?_) | refine jM (by omega) ?_ | refine jN (by omega) ?_ | with_reducible refine jM rfl ?_ | refine jM (by assumption) ?_ | refine jN (by assumption) ?_ | refine jM (by decide) ?_ | refine jN (by decide) ?_) | refine jF (ptr_ok tblOk rfl rfl) ?_ | refine jO (fun _ => by kernel_rfl) ?_ | refine jF (by decide) ?_)
  refine hS.al ?_
  intro b1 w1 _ hS
  repeat (first | refine SemW.run tblOk ?_ | refine jA (by omega) ?_ | refine jB (by omega) ?_ | refine jC (by omega) ?_ | refine jD (by omega) ?_ | refine jE rfl ?_ | refine jF (by omega) ?_ | (refine jG ?_; first | with_reducible (first | refine jH ?_ | refine jI ?_ | refine jJ ?_ | refine jK ?_ | refine jL ?_) | refine jM (by omega) ?_ | refine jN (by omega) ?_ | with_reducible refine jM rfl ?_ | refine jM (by assumption) ?_ | refine jN (by assumption) ?_ | refine jM (by decide) ?_ | refine jN (by decide) ?_) | refine jF (ptr_ok tblOk rfl rfl) ?_ | refine jO (fun _ => by kernel_rfl) ?_ | refine jF (by decide) ?_)
  refine hS.al ?_
  intro b2 w2 _ hS
  repeat (first | refine SemW.run tblOk ?_ | refine jA (by omega) ?_ | refine jB (by omega) ?_ | refine jC (by omega) ?_ | refine jD (by omega) ?_ | refine jE rfl ?_ | refine jF (by omega) ?_ | (refine jG ?_; first | with_reducible (first | refine jH ?_ | refine jI ?_ | refine jJ ?_ | refine jK ?_ | refine jL ?_) | refine jM (by omega) ?_ | refine jN (by omega) ?_ | with_reducible refine jM rfl ?_ | refine jM (by assumption) ?_ | refine jN (by assumption) ?_ | refine jM (by decide) ?_ | refine jN (by decide) ?_) | refine jF (ptr_ok tblOk rfl rfl) ?_ | refine jO (fun _ => by kernel_rfl) ?_ | refine jF (by decide) ?_ | refine hS.ld rfl ?_ | refine hS.ldn rfl ?_ | (refine hS.st rfl rfl ?_; intro _ hS))
  refine BrG.id ?_
  generalize decide (x.code = y.code) = bb
  cases bb
  · repeat (first | refine SemW.run tblOk ?_ | refine jA (by omega) ?_ | refine jB (by omega) ?_ | refine jC (by omega) ?_ | refine jD (by omega) ?_ | refine jE rfl ?_ | refine jF (by omega) ?_ | (refine jG ?_; first | with_reducible (first | refine jH ?_ | refine jI ?_ | refine jJ ?_ | refine jK ?_ | refine jL ?_) | refine jM (by omega) ?_ | refine jN (by omega) ?_ | with_reducible refine jM rfl ?_ | refine jM (by assumption) ?_ | refine jN (by assumption) ?_ | refine jM (by decide) ?_ | refine jN (by decide) ?_) | refine jF (ptr_ok tblOk rfl rfl) ?_ | refine jO (fun _ => by kernel_rfl) ?_ | refine jF (by decide) ?_ | refine hS.ld rfl ?_ | refine hS.ldn rfl ?_ | (refine hS.st rfl rfl ?_; intro _ hS))
    exact ⟨rfl, hS.nil⟩
  repeat (first | refine SemW.run tblOk ?_ | refine jA (by omega) ?_ | refine jB (by omega) ?_ | refine jC (by omega) ?_ | refine jD (by omega) ?_ | refine jE rfl ?_ | refine jF (by omega) ?_ | (refine jG ?_; first | with_reducible (first | refine jH ?_ | refine jI ?_ | refine jJ ?_ | refine jK ?_ | refine jL ?_) | refine jM (by omega) ?_ | refine jN (by omega) ?_ | with_reducible refine jM rfl ?_ | refine jM (by assumption) ?_ | refine jN (by assumption) ?_ | refine jM (by decide) ?_ | refine jN (by decide) ?_) | refine jF (ptr_ok tblOk rfl rfl) ?_ | refine jO (fun _ => by kernel_rfl) ?_ | refine jF (by decide) ?_ | refine hS.ld rfl ?_ | refine hS.ldn rfl ?_ | (refine hS.st rfl rfl ?_; intro _ hS))
  refine neqAgg (n := 2) (by omega) (by kernel_rfl) (eqLim _ _ _ _ _ _ _ _) ?_
  repeat (first | refine SemW.run tblOk ?_ | refine jA (by omega) ?_ | refine jB (by omega) ?_ | refine jC (by omega) ?_ | refine jD (by omega) ?_ | refine jE rfl ?_ | refine jF (by omega) ?_ | (refine jG ?_; first | with_reducible (first | refine jH ?_ | refine jI ?_ | refine jJ ?_ | refine jK ?_ | refine jL ?_) | refine jM (by omega) ?_ | refine jN (by omega) ?_ | with_reducible refine jM rfl ?_ | refine jM (by assumption) ?_ | refine jN (by assumption) ?_ | refine jM (by decide) ?_ | refine jN (by decide) ?_) | refine jF (ptr_ok tblOk rfl rfl) ?_ | refine jO (fun _ => by kernel_rfl) ?_ | refine jF (by decide) ?_ | refine hS.ld rfl ?_ | refine hS.ldn rfl ?_ | (refine hS.st rfl rfl ?_; intro _ hS))
  refine BrG.id ?_
  generalize (decide (x.n0 = y.n0) && (decide (x.n1 = y.n1) && (decide (x.n2 = y.n2) && (decide (x.n3 = y.n3) && true)))) = bb
  cases bb
  · repeat (first | refine SemW.run tblOk ?_ | refine jA (by omega) ?_ | refine jB (by omega) ?_ | refine jC (by omega) ?_ | refine jD (by omega) ?_ | refine jE rfl ?_ | refine jF (by omega) ?_ | (refine jG ?_; first | with_reducible (first | refine jH ?_ | refine jI ?_ | refine jJ ?_ | refine jK ?_ | refine jL ?_) | refine jM (by omega) ?_ | refine jN (by omega) ?_ | with_reducible refine jM rfl ?_ | refine jM (by assumption) ?_ | refine jN (by assumption) ?_ | refine jM (by decide) ?_ | refine jN (by decide) ?_) | refine jF (ptr_ok tblOk rfl rfl) ?_ | refine jO (fun _ => by kernel_rfl) ?_ | refine jF (by decide) ?_ | refine hS.ld rfl ?_ | refine hS.ldn rfl ?_ | (refine hS.st rfl rfl ?_; intro _ hS))
    exact ⟨rfl, hS.nil⟩
  repeat (first | refine SemW.run tblOk ?_ | refine jA (by omega) ?_ | refine jB (by omega) ?_ | refine jC (by omega) ?_ | refine jD (by omega) ?_ | refine jE rfl ?_ | refine jF (by omega) ?_ | (refine jG ?_; first | with_reducible (first | refine jH ?_ | refine jI ?_ | refine jJ ?_ | refine jK ?_ | refine jL ?_) | refine jM (by omega) ?_ | refine jN (by omega) ?_ | with_reducible refine jM rfl ?_ | refine jM (by assumption) ?_ | refine jN (by assumption) ?_ | refine jM (by decide) ?_ | refine jN (by decide) ?_) | refine jF (ptr_ok tblOk rfl rfl) ?_ | refine jO (fun _ => by kernel_rfl) ?_ | refine jF (by decide) ?_ | refine hS.ld rfl ?_ | refine hS.ldn rfl ?_ | (refine hS.st rfl rfl ?_; intro _ hS))
  refine Chk.mk (by kernel_rfl) ?_
  repeat (first | refine SemW.run tblOk ?_ | refine jA (by omega) ?_ | refine jB (by omega) ?_ | refine jC (by omega) ?_ | refine jD (by omega) ?_ | refine jE rfl ?_ | refine jF (by omega) ?_ | (refine jG ?_; first | with_reducible (first | refine jH ?_ | refine jI ?_ | refine jJ ?_ | refine jK ?_ | refine jL ?_) | refine jM (by omega) ?_ | refine jN (by omega) ?_ | with_reducible refine jM rfl ?_ | refine jM (by assumption) ?_ | refine jN (by assumption) ?_ | refine jM (by decide) ?_ | refine jN (by decide) ?_) | refine jF (ptr_ok tblOk rfl rfl) ?_ | refine jO (fun _ => by kernel_rfl) ?_ | refine jF (by decide) ?_ | refine hS.ld rfl ?_ | refine hS.ldn rfl ?_ | (refine hS.st rfl rfl ?_; intro _ hS))
  refine BrG.id ?_
  rw [beqB_dec]
  generalize decide (x.over = y.over) = bb
  cases bb
  · repeat (first | refine SemW.run tblOk ?_ | refine jA (by omega) ?_ | refine jB (by omega) ?_ | refine jC (by omega) ?_ | refine jD (by omega) ?_ | refine jE rfl ?_ | refine jF (by omega) ?_ | (refine jG ?_; first | with_reducible (first | refine jH ?_ | refine jI ?_ | refine jJ ?_ | refine jK ?_ | refine jL ?_) | refine jM (by omega) ?_ | refine jN (by omega) ?_ | with_reducible refine jM rfl ?_ | refine jM (by assumption) ?_ | refine jN (by assumption) ?_ | refine jM (by decide) ?_ | refine jN (by decide) ?_) | refine jF (ptr_ok tblOk rfl rfl) ?_ | refine jO (fun _ => by kernel_rfl) ?_ | refine jF (by decide) ?_ | refine hS.ld rfl ?_ | refine hS.ldn rfl ?_ | (refine hS.st rfl rfl ?_; intro _ hS))
    exact ⟨rfl, hS.nil⟩
  repeat (first | refine SemW.run tblOk ?_ | refine jA (by omega) ?_ | refine jB (by omega) ?_ | refine jC (by omega) ?_ | refine jD (by omega) ?_ | refine jE rfl ?_ | refine jF (by omega) ?_ | (refine jG ?_; first | with_reducible (first | refine jH ?_ | refine jI ?_ | refine jJ ?_ | refine jK ?_ | refine jL ?_) | refine jM (by omega) ?_ | refine jN (by omega) ?_ | with_reducible refine jM rfl ?_ | refine jM (by assumption) ?_ | refine jN (by assumption) ?_ | refine jM (by decide) ?_ | refine jN (by decide) ?_) | refine jF (ptr_ok tblOk rfl rfl) ?_ | refine jO (fun _ => by kernel_rfl) ?_ | refine jF (by decide) ?_ | refine hS.ld rfl ?_ | refine hS.ldn rfl ?_ | (refine hS.st rfl rfl ?_; intro _ hS))
  refine neqAgg (n := 3) (by omega) (by kernel_rfl) (eqPax _ _) ?_
  repeat (first | refine SemW.run tblOk ?_ | refine jA (by omega) ?_ | refine jB (by omega) ?_ | refine jC (by omega) ?_ | refine jD (by omega) ?_ | refine jE rfl ?_ | refine jF (by omega) ?_ | (refine jG ?_; first | with_reducible (first | refine jH ?_ | refine jI ?_ | refine jJ ?_ | refine jK ?_ | refine jL ?_) | refine jM (by omega) ?_ | refine jN (by omega) ?_ | with_reducible refine jM rfl ?_ | refine jM (by assumption) ?_ | refine jN (by assumption) ?_ | refine jM (by decide) ?_ | refine jN (by decide) ?_) | refine jF (ptr_ok tblOk rfl rfl) ?_ | refine jO (fun _ => by kernel_rfl) ?_ | refine jF (by decide) ?_ | refine hS.ld rfl ?_ | refine hS.ldn rfl ?_ | (refine hS.st rfl rfl ?_; intro _ hS))
  refine BrG.id ?_
  generalize decide (x.pax = y.pax) = bb
  cases bb
  · repeat (first | refine SemW.run tblOk ?_ | refine jA (by omega) ?_ | refine jB (by omega) ?_ | refine jC (by omega) ?_ | refine jD (by omega) ?_ | refine jE rfl ?_ | refine jF (by omega) ?_ | (refine jG ?_; first | with_reducible (first | refine jH ?_ | refine jI ?_ | refine jJ ?_ | refine jK ?_ | refine jL ?_) | refine jM (by omega) ?_ | refine jN (by omega) ?_ | with_reducible refine jM rfl ?_ | refine jM (by assumption) ?_ | refine jN (by assumption) ?_ | refine jM (by decide) ?_ | refine jN (by decide) ?_) | refine jF (ptr_ok tblOk rfl rfl) ?_ | refine jO (fun _ => by kernel_rfl) ?_ | refine jF (by decide) ?_ | refine hS.ld rfl ?_ | refine hS.ldn rfl ?_ | (refine hS.st rfl rfl ?_; intro _ hS))
    exact ⟨rfl, hS.nil⟩
  repeat (first | refine SemW.run tblOk ?_ | refine jA (by omega) ?_ | refine jB (by omega) ?_ | refine jC (by omega) ?_ | refine jD (by omega) ?_ | refine jE rfl ?_ | refine jF (by omega) ?_ | (refine jG ?_; first | with_reducible (first | refine jH ?_ | refine jI ?_ | refine jJ ?_ | refine jK ?_ | refine jL ?_) | refine jM (by omega) ?_ | refine jN (by omega) ?_ | with_reducible refine jM rfl ?_ | refine jM (by assumption) ?_ | refine jN (by assumption) ?_ | refine jM (by decide) ?_ | refine jN (by decide) ?_) | refine jF (ptr_ok tblOk rfl rfl) ?_ | refine jO (fun _ => by kernel_rfl) ?_ | refine jF (by decide) ?_ | refine hS.ld rfl ?_ | refine hS.ldn rfl ?_ | (refine hS.st rfl rfl ?_; intro _ hS))
  refine BrG.id ?_
  generalize decide (x.text = y.text) = bb
  cases bb
  · repeat (first | refine SemW.run tblOk ?_ | refine jA (by omega) ?_ | refine jB (by omega) ?_ | refine jC (by omega) ?_ | refine jD (by omega) ?_ | refine jE rfl ?_ | refine jF (by omega) ?_ | (refine jG ?_; first | with_reducible (first | refine jH ?_ | refine jI ?_ | refine jJ ?_ | refine jK ?_ | refine jL ?_) | refine jM (by omega) ?_ | refine jN (by omega) ?_ | with_reducible refine jM rfl ?_ | refine jM (by assumption) ?_ | refine jN (by assumption) ?_ | refine jM (by decide) ?_ | refine jN (by decide) ?_) | refine jF (ptr_ok tblOk rfl rfl) ?_ | refine jO (fun _ => by kernel_rfl) ?_ | refine jF (by decide) ?_ | refine hS.ld rfl ?_ | refine hS.ldn rfl ?_ | (refine hS.st rfl rfl ?_; intro _ hS))
    exact ⟨rfl, hS.nil⟩
  repeat (first | refine SemW.run tblOk ?_ | refine jA (by omega) ?_ | refine jB (by omega) ?_ | refine jC (by omega) ?_ | refine jD (by omega) ?_ | refine jE rfl ?_ | refine jF (by omega) ?_ | (refine jG ?_; first | with_reducible (first | refine jH ?_ | refine jI ?_ | refine jJ ?_ | refine jK ?_ | refine jL ?_) | refine jM (by omega) ?_ | refine jN (by omega) ?_ | with_reducible refine jM rfl ?_ | refine jM (by assumption) ?_ | refine jN (by assumption) ?_ | refine jM (by decide) ?_ | refine jN (by decide) ?_) | refine jF (ptr_ok tblOk rfl rfl) ?_ | refine jO (fun _ => by kernel_rfl) ?_ | refine jF (by decide) ?_ | refine hS.ld rfl ?_ | refine hS.ldn rfl ?_ | (refine hS.st rfl rfl ?_; intro _ hS))
  by_cases hlen : x.ids.length = y.ids.length
  · repeat (first | refine SemW.run tblOk ?_ | refine jA (by omega) ?_ | refine jB (by omega) ?_ | refine jC (by omega) ?_ | refine jD (by omega) ?_ | refine jE rfl ?_ | refine jF (by omega) ?_ | (refine jG ?_; first | with_reducible (first | refine jH ?_ | refine jI ?_ | refine jJ ?_ | refine jK ?_ | refine jL ?_) | refine jM (by omega) ?_ | refine jN (by omega) ?_ | with_reducible refine jM rfl ?_ | refine jM (by assumption) ?_ | refine jN (by assumption) ?_ | refine jM (by decide) ?_ | refine jN (by decide) ?_) | refine jF (ptr_ok tblOk rfl rfl) ?_ | refine jO (fun _ => by kernel_rfl) ?_ | refine jF (by decide) ?_ | refine hS.ld rfl ?_ | refine hS.ldn rfl ?_ | (refine hS.st rfl rfl ?_; intro _ hS))
    refine SemW.loop (fun k : Nat => [(2, ptr b1), (3, ptr b2), (50, .int .i64 x.ids.length), (51, .int .i64 k)])
      (fun k w' => (k ≤ x.ids.length ∧ x.ids.take k = y.ids.take k) ∧ St w [] [(b2, repO y b cb), (b1, repO x a ca)] w') (fun k => x.ids.length - k) 0
      ⟨rfl, rfl, rfl, rfl, trivial⟩ ⟨⟨Nat.zero_le _, rfl⟩, hS⟩ ?_
    clear hS
    rintro k w1 ⟨⟨hk, hno⟩, hS⟩
    by_cases hkl : k < x.ids.length
    · have hkq : k < y.ids.length := by omega
      obtain ⟨g, off, rfl, -, -⟩ := h.hx.get (j := k) (by rw [List.length_map]; exact hkl)
      obtain ⟨g', off', rfl, -, -⟩ := h.hy.get (j := k) (by rw [List.length_map]; exact hkq)
      have hxk : (x.ids.map intV)[k]? = some (intV x.ids[k]) := by simp [hkl]
      have hyk : (y.ids.map intV)[k]? = some (intV y.ids[k]) := by simp [hkq]
      have hsr := List.take_succ_eq_append_getElem hkl
      have hsq := List.take_succ_eq_append_getElem hkq
      have hne : ¬ x.ids[k] = y.ids[k] → ¬ x.ids = y.ids := fun h e => h (by simp only [e])
      generalize x.ids[k] = u at hxk hsr hne
      generalize y.ids[k] = v at hyk hsq hne
      repeat (first | refine SemW.run tblOk ?_ | refine jA (by omega) ?_ | refine jB (by omega) ?_ | refine jC (by omega) ?_ | refine jD (by omega) ?_ | refine jE rfl ?_ | refine jF (by omega) ?_ | (refine jG ?_; first | with_reducible (first | refine jH ?_ | refine jI ?_ | refine jJ ?_ | refine jK ?_ | refine jL ?_) | refine jM (by omega) ?_ | refine jN (by omega) ?_ | with_reducible refine jM rfl ?_ | refine jM (by assumption) ?_ | refine jN (by assumption) ?_ | refine jM (by decide) ?_ | refine jN (by decide) ?_) | refine jF (ptr_ok tblOk rfl rfl) ?_ | refine jO (fun _ => by kernel_rfl) ?_ | refine jF (by decide) ?_ | refine hS.ld rfl ?_ | refine hS.ldn rfl ?_ | (refine hS.st rfl rfl ?_; intro _ hS))
      refine SemW.draw tblOk mixed (fun w' => St w [] [(b2, repO y (some ⟨g', off', none⟩) cb), (b1, repO x (some ⟨g, off, none⟩) ca)] w') [] [0, 1, 2, 3, 4, 5, 6, 7, 8, 9, 10] (by kernel_rfl) hS.drew ?_
      have hS := hS.drew
      repeat (first | refine SemW.run tblOk ?_ | refine jA (by omega) ?_ | refine jB (by omega) ?_ | refine jC (by omega) ?_ | refine jD (by omega) ?_ | refine jE rfl ?_ | refine jF (by omega) ?_ | (refine jG ?_; first | with_reducible (first | refine jH ?_ | refine jI ?_ | refine jJ ?_ | refine jK ?_ | refine jL ?_) | refine jM (by omega) ?_ | refine jN (by omega) ?_ | with_reducible refine jM rfl ?_ | refine jM (by assumption) ?_ | refine jN (by assumption) ?_ | refine jM (by decide) ?_ | refine jN (by decide) ?_) | refine jF (ptr_ok tblOk rfl rfl) ?_ | refine jO (fun _ => by kernel_rfl) ?_ | refine jF (by decide) ?_ | refine hS.ldC rfl ?_ | refine hS.ldnC rfl ?_)
      refine Arr.ldcC h.hx hxk (by omega) ?_
      repeat (first | refine SemW.run tblOk ?_ | refine jA (by omega) ?_ | refine jB (by omega) ?_ | refine jC (by omega) ?_ | refine jD (by omega) ?_ | refine jE rfl ?_ | refine jF (by omega) ?_ | (refine jG ?_; first | with_reducible (first | refine jH ?_ | refine jI ?_ | refine jJ ?_ | refine jK ?_ | refine jL ?_) | refine jM (by omega) ?_ | refine jN (by omega) ?_ | with_reducible refine jM rfl ?_ | refine jM (by assumption) ?_ | refine jN (by assumption) ?_ | refine jM (by decide) ?_ | refine jN (by decide) ?_) | refine jF (ptr_ok tblOk rfl rfl) ?_ | refine jO (fun _ => by kernel_rfl) ?_ | refine jF (by decide) ?_ | refine hS.ldC rfl ?_ | refine hS.ldnC rfl ?_)
      refine Arr.ldcC h.hy hyk (by omega) ?_
      repeat (first | refine SemW.run tblOk ?_ | refine jA (by omega) ?_ | refine jB (by omega) ?_ | refine jC (by omega) ?_ | refine jD (by omega) ?_ | refine jE rfl ?_ | refine jF (by omega) ?_ | (refine jG ?_; first | with_reducible (first | refine jH ?_ | refine jI ?_ | refine jJ ?_ | refine jK ?_ | refine jL ?_) | refine jM (by omega) ?_ | refine jN (by omega) ?_ | with_reducible refine jM rfl ?_ | refine jM (by assumption) ?_ | refine jN (by assumption) ?_ | refine jM (by decide) ?_ | refine jN (by decide) ?_) | refine jF (ptr_ok tblOk rfl rfl) ?_ | refine jO (fun _ => by kernel_rfl) ?_ | refine jF (by decide) ?_ | refine hS.ldC rfl ?_ | refine hS.ldnC rfl ?_)
      by_cases huv : u = v
      · rw [decide_eq_true huv]
        repeat (first | refine SemW.run tblOk ?_ | refine jA (by omega) ?_ | refine jB (by omega) ?_ | refine jC (by omega) ?_ | refine jD (by omega) ?_ | refine jE rfl ?_ | refine jF (by omega) ?_ | (refine jG ?_; first | with_reducible (first | refine jH ?_ | refine jI ?_ | refine jJ ?_ | refine jK ?_ | refine jL ?_) | refine jM (by omega) ?_ | refine jN (by omega) ?_ | with_reducible refine jM rfl ?_ | refine jM (by assumption) ?_ | refine jN (by assumption) ?_ | refine jM (by decide) ?_ | refine jN (by decide) ?_) | refine jF (ptr_ok tblOk rfl rfl) ?_ | refine jO (fun _ => by kernel_rfl) ?_ | refine jF (by decide) ?_ | refine hS.ld rfl ?_ | refine hS.ldn rfl ?_ | (refine hS.st rfl rfl ?_; intro _ hS))
        exact ⟨k + 1, ⟨rfl, rfl, rfl, rfl, trivial⟩, ⟨⟨by omega, by rw [hsr, hsq, hno, huv]⟩, hS⟩, by omega⟩
      · rw [decide_eq_false huv]
        repeat (first | refine SemW.run tblOk ?_ | refine jA (by omega) ?_ | refine jB (by omega) ?_ | refine jC (by omega) ?_ | refine jD (by omega) ?_ | refine jE rfl ?_ | refine jF (by omega) ?_ | (refine jG ?_; first | with_reducible (first | refine jH ?_ | refine jI ?_ | refine jJ ?_ | refine jK ?_ | refine jL ?_) | refine jM (by omega) ?_ | refine jN (by omega) ?_ | with_reducible refine jM rfl ?_ | refine jM (by assumption) ?_ | refine jN (by assumption) ?_ | refine jM (by decide) ?_ | refine jN (by decide) ?_) | refine jF (ptr_ok tblOk rfl rfl) ?_ | refine jO (fun _ => by kernel_rfl) ?_ | refine jF (by decide) ?_ | refine hS.ld rfl ?_ | refine hS.ldn rfl ?_ | (refine hS.st rfl rfl ?_; intro _ hS))
        exact ⟨by rw [decide_eq_false (hne huv)]; rfl, hS.nil⟩
    · have hke : k = x.ids.length := by omega
      rw [hke, List.take_length, hlen, List.take_length] at hno
      repeat (first | refine SemW.run tblOk ?_ | refine jA (by omega) ?_ | refine jB (by omega) ?_ | refine jC (by omega) ?_ | refine jD (by omega) ?_ | refine jE rfl ?_ | refine jF (by omega) ?_ | (refine jG ?_; first | with_reducible (first | refine jH ?_ | refine jI ?_ | refine jJ ?_ | refine jK ?_ | refine jL ?_) | refine jM (by omega) ?_ | refine jN (by omega) ?_ | with_reducible refine jM rfl ?_ | refine jM (by assumption) ?_ | refine jN (by assumption) ?_ | refine jM (by decide) ?_ | refine jN (by decide) ?_) | refine jF (ptr_ok tblOk rfl rfl) ?_ | refine jO (fun _ => by kernel_rfl) ?_ | refine jF (by decide) ?_ | refine hS.ld rfl ?_ | refine hS.ldn rfl ?_ | (refine hS.st rfl rfl ?_; intro _ hS))
      exact ⟨by rw [decide_eq_true hno]; rfl, hS.nil⟩
  · repeat (first | refine SemW.run tblOk ?_ | refine jA (by omega) ?_ | refine jB (by omega) ?_ | refine jC (by omega) ?_ | refine jD (by omega) ?_ | refine jE rfl ?_ | refine jF (by omega) ?_ | (refine jG ?_; first | with_reducible (first | refine jH ?_ | refine jI ?_ | refine jJ ?_ | refine jK ?_ | refine jL ?_) | refine jM (by omega) ?_ | refine jN (by omega) ?_ | with_reducible refine jM rfl ?_ | refine jM (by assumption) ?_ | refine jN (by assumption) ?_ | refine jM (by decide) ?_ | refine jN (by decide) ?_) | refine jF (ptr_ok tblOk rfl rfl) ?_ | refine jO (fun _ => by kernel_rfl) ?_ | refine jF (by decide) ?_ | refine hS.ld rfl ?_ | refine hS.ldn rfl ?_ | (refine hS.st rfl rfl ?_; intro _ hS))
    exact ⟨by rw [decide_eq_false (fun e => hlen (by rw [e]))]; rfl, hS.nil⟩
end Go.Proofs.YthpmmfapolcaiaaGreatDoor

/- Package wire: Command. -/
namespace Go.Proofs.YthpmmfapolcaiaaGreatDoor
open Go Go.Eng Go.Proofs
/-- A command that is handed in. -/
structure ArgC (w : World) (c : CmdM) (a : Option Addr) (cap : Nat) : Prop where
  rows : RowsAt w a cap c.rows
  ok : c.ok
  nr : c.rows.length ≤ 16777216
  nt : c.text.length ≤ 16777216
  ns : ∀ r ∈ c.rows, r.seats.length ≤ 16777216
theorem fieldsB_len (k : CK) {c : CmdM} (hok : c.ok) (hs : smallC c = true) : (fieldsB k c).length ≤ 50000 := by
  obtain ⟨h1, h2, h3⟩ := small_iff.1 hs
  have hw := rowsW_le h3
  have hb := rowsBt_len c.rows hok.rows (by omega)
  have hi1 := ints_len [c.id] (all1 hok.id).2
  have hi2 := ints_len [c.id, c.eq] (all2 hok.id hok.eq).2
  have hi3 := ints_len [c.id, c.num] (all2 hok.id hok.num).2
  have hi4 := ints_len [c.id, c.fl, c.wcab, c.cls] (all4 hok.id hok.fl hok.wcab hok.cls).2
  have hi5 := ints_len [c.l0, c.l1, c.l2, c.l3] (all4 hok.l0 hok.l1 hok.l2 hok.l3).2
  have hi6 := ints_len [c.fl, c.eq] (all2 hok.fl hok.eq).2
  have hi7 := ints_len [c.fl] (all1 hok.fl).2
  have hn1 := numB_len10 c.rows.length (by omega)
  have hn2 := numB_len10 c.text.length (by omega)
  have hlt := hok.lt
  have hn3 := numB_len10 c.lt (by omega)
  have hn4 := numB_len10 (marksN [c.fit, c.inf, c.vol, c.stb]) (by have := marks4_lt c.fit c.inf c.vol c.stb; omega)
  simp only [List.length_cons, List.length_nil] at hi1 hi2 hi3 hi4 hi5 hi6 hi7
  cases k <;> simp only [fieldsB, textB, List.length_append] <;> omega
theorem cmdB_len {c : CmdM} (hok : c.ok) (hs : smallC c = true) (h2 : c.kind ≤ 15) : (cmdB c).length ≤ 65536 := by
  have h3 := fieldsB_len (ckOf c.kind) hok hs
  have h4 := numB_len10 c.kind.toNat (by omega)
  have h5 := numB_len10 (zig c.req) (zig_ok hok.req)
  unfold cmdB intB
  simp only [List.length_append]; omega
def cmdO (c : CmdM) : List Value := if RightC c then [Str (frameB (cmdB c)), .int .i64 0] else [Str [], .int .i64 34]
set_option maxRecDepth 4000 in
set_option maxHeartbeats 8000000 in
theorem Command_spec {w : World} {c : CmdM} {a : Option Addr} {cap : Nat} (hA : ArgC w c a cap) : Cl Tryz.prog f_wire_Command [cmdV c a cap] w fun v w' => v = .tuple ⟨cmdO c⟩ ∧ St w [] [] w' := by
  have hS := St.start w
  have hok := hA.ok
  have hnr := hA.nr
  have hnt := hA.nt
  unfold cmdO
  refine en_wire_Command rfl ?_
  repeat (first | refine SemW.run tblOk ?_ | refine jA (by omega) ?_ | refine jB (by omega) ?_ | refine jC (by omega) ?_ | refine jD (by omega) ?_ | refine jE rfl ?_ | refine jF (by omega) ?_ | (refine jG ?_; first | with_reducible (first | refine jH ?_ | refine jI ?_ | refine jJ ?_ | refine jK ?_ | refine jL ?_) | refine jM (by omega) ?_ | refine jN (by omega) ?_ | with_reducible refine jM rfl ?_ | refine jM (by assumption) ?_ | refine jN (by assumption) ?_ | refine jM (by decide) ?_ | refine jN (by decide) ?_) | refine jF (ptr_ok tblOk rfl rfl) ?_ | refine jO (fun _ => by kernel_rfl) ?_ | refine jF (by decide) ?_)
  refine hS.al ?_
  intro b1 w1 _ hS
  by_cases h1 : 1 ≤ c.kind
  rotate_left
  · rw [if_neg (fun h : RightC c => h1 h.1)]
    repeat (first | refine SemW.run tblOk ?_ | refine jA (by omega) ?_ | refine jB (by omega) ?_ | refine jC (by omega) ?_ | refine jD (by omega) ?_ | refine jE rfl ?_ | refine jF (by omega) ?_ | (refine jG ?_; first | with_reducible (first | refine jH ?_ | refine jI ?_ | refine jJ ?_ | refine jK ?_ | refine jL ?_) | refine jM (by omega) ?_ | refine jN (by omega) ?_ | with_reducible refine jM rfl ?_ | refine jM (by assumption) ?_ | refine jN (by assumption) ?_ | refine jM (by decide) ?_ | refine jN (by decide) ?_) | refine jF (ptr_ok tblOk rfl rfl) ?_ | refine jO (fun _ => by kernel_rfl) ?_ | refine jF (by decide) ?_ | refine hS.ld rfl ?_ | refine hS.ldn rfl ?_ | (refine hS.st rfl rfl ?_; intro _ hS))
    exact ⟨rfl, hS.nil⟩
  by_cases h2 : c.kind ≤ 15
  rotate_left
  · rw [if_neg (fun h : RightC c => h2 h.2.1)]
    repeat (first | refine SemW.run tblOk ?_ | refine jA (by omega) ?_ | refine jB (by omega) ?_ | refine jC (by omega) ?_ | refine jD (by omega) ?_ | refine jE rfl ?_ | refine jF (by omega) ?_ | (refine jG ?_; first | with_reducible (first | refine jH ?_ | refine jI ?_ | refine jJ ?_ | refine jK ?_ | refine jL ?_) | refine jM (by omega) ?_ | refine jN (by omega) ?_ | with_reducible refine jM rfl ?_ | refine jM (by assumption) ?_ | refine jN (by assumption) ?_ | refine jM (by decide) ?_ | refine jN (by decide) ?_) | refine jF (ptr_ok tblOk rfl rfl) ?_ | refine jO (fun _ => by kernel_rfl) ?_ | refine jF (by decide) ?_ | refine hS.ld rfl ?_ | refine hS.ldn rfl ?_ | (refine hS.st rfl rfl ?_; intro _ hS))
    exact ⟨rfl, hS.nil⟩
  repeat (first | refine SemW.run tblOk ?_ | refine jA (by omega) ?_ | refine jB (by omega) ?_ | refine jC (by omega) ?_ | refine jD (by omega) ?_ | refine jE rfl ?_ | refine jF (by omega) ?_ | (refine jG ?_; first | with_reducible (first | refine jH ?_ | refine jI ?_ | refine jJ ?_ | refine jK ?_ | refine jL ?_) | refine jM (by omega) ?_ | refine jN (by omega) ?_ | with_reducible refine jM rfl ?_ | refine jM (by assumption) ?_ | refine jN (by assumption) ?_ | refine jM (by decide) ?_ | refine jN (by decide) ?_) | refine jF (ptr_ok tblOk rfl rfl) ?_ | refine jO (fun _ => by kernel_rfl) ?_ | refine jF (by decide) ?_ | refine hS.ld rfl ?_ | refine hS.ldn rfl ?_ | (refine hS.st rfl rfl ?_; intro _ hS))
  refine Cl.mono (wsmall_spec c (hA.rows.keep hS.nil) hnr (by omega) (fun r hr => by have := hA.ns r hr; omega)) ?_
  rintro _ w2 ⟨rfl, hS'⟩
  have hS := hS.call0 hS'
  cases hsm : smallC c with
  | false =>
    rw [if_neg (fun h : RightC c => by have := h.2.2.1; rw [hsm] at this; cases this)]
    repeat (first | refine SemW.run tblOk ?_ | refine jA (by omega) ?_ | refine jB (by omega) ?_ | refine jC (by omega) ?_ | refine jD (by omega) ?_ | refine jE rfl ?_ | refine jF (by omega) ?_ | (refine jG ?_; first | with_reducible (first | refine jH ?_ | refine jI ?_ | refine jJ ?_ | refine jK ?_ | refine jL ?_) | refine jM (by omega) ?_ | refine jN (by omega) ?_ | with_reducible refine jM rfl ?_ | refine jM (by assumption) ?_ | refine jN (by assumption) ?_ | refine jM (by decide) ?_ | refine jN (by decide) ?_) | refine jF (ptr_ok tblOk rfl rfl) ?_ | refine jO (fun _ => by kernel_rfl) ?_ | refine jF (by decide) ?_ | refine hS.ld rfl ?_ | refine hS.ldn rfl ?_ | (refine hS.st rfl rfl ?_; intro _ hS))
    exact ⟨rfl, hS.nil⟩
  | true =>
    obtain ⟨s1, s2, s3⟩ := small_iff.1 hsm
    have hlen := cmdB_len hok hsm h2
    obtain ⟨kn, hkn⟩ : ∃ kn : Nat, c.kind = (kn : Int) := ⟨c.kind.toNat, by omega⟩
    have hk10 := numB_len10 kn (by omega)
    have hq10 := numB_len10 (zig c.req) (zig_ok hok.req)
    repeat (first | refine SemW.run tblOk ?_ | refine jA (by omega) ?_ | refine jB (by omega) ?_ | refine jC (by omega) ?_ | refine jD (by omega) ?_ | refine jE rfl ?_ | refine jF (by omega) ?_ | (refine jG ?_; first | with_reducible (first | refine jH ?_ | refine jI ?_ | refine jJ ?_ | refine jK ?_ | refine jL ?_) | refine jM (by omega) ?_ | refine jN (by omega) ?_ | with_reducible refine jM rfl ?_ | refine jM (by assumption) ?_ | refine jN (by assumption) ?_ | refine jM (by decide) ?_ | refine jN (by decide) ?_) | refine jF (ptr_ok tblOk rfl rfl) ?_ | refine jO (fun _ => by kernel_rfl) ?_ | refine jF (by decide) ?_ | refine hS.ld rfl ?_ | refine hS.ldn rfl ?_ | (refine hS.st rfl rfl ?_; intro _ hS))
    refine Cl.mono PNew_spec ?_
    rintro _ w3 ⟨pb, L, rfl, hW, hS'⟩
    have hS := hS.callNew hS'
    repeat (first | refine SemW.run tblOk ?_ | refine jA (by omega) ?_ | refine jB (by omega) ?_ | refine jC (by omega) ?_ | refine jD (by omega) ?_ | refine jE rfl ?_ | refine jF (by omega) ?_ | (refine jG ?_; first | with_reducible (first | refine jH ?_ | refine jI ?_ | refine jJ ?_ | refine jK ?_ | refine jL ?_) | refine jM (by omega) ?_ | refine jN (by omega) ?_ | with_reducible refine jM rfl ?_ | refine jM (by assumption) ?_ | refine jN (by assumption) ?_ | refine jM (by decide) ?_ | refine jN (by decide) ?_) | refine jF (ptr_ok tblOk rfl rfl) ?_ | refine jO (fun _ => by kernel_rfl) ?_ | refine jF (by decide) ?_ | refine hS.ld rfl ?_ | refine hS.ldn rfl ?_ | (refine hS.st rfl rfl ?_; intro _ hS))
    refine hS.al ?_
    intro b4 w4 _ hS
    repeat (first | refine SemW.run tblOk ?_ | refine jA (by omega) ?_ | refine jB (by omega) ?_ | refine jC (by omega) ?_ | refine jD (by omega) ?_ | refine jE rfl ?_ | refine jF (by omega) ?_ | (refine jG ?_; first | with_reducible (first | refine jH ?_ | refine jI ?_ | refine jJ ?_ | refine jK ?_ | refine jL ?_) | refine jM (by omega) ?_ | refine jN (by omega) ?_ | with_reducible refine jM rfl ?_ | refine jM (by assumption) ?_ | refine jN (by assumption) ?_ | refine jM (by decide) ?_ | refine jN (by decide) ?_) | refine jF (ptr_ok tblOk rfl rfl) ?_ | refine jO (fun _ => by kernel_rfl) ?_ | refine jF (by decide) ?_ | refine hS.ld rfl ?_ | refine hS.ldn rfl ?_ | (refine hS.st rfl rfl ?_; intro _ hS))
    refine hS.al ?_
    intro r w5 _ hS
    have harr := hS.arr (b := r) (nodup_chunk (L := L) hS)
    rw [hkn] at harr
    repeat (first | refine SemW.run tblOk ?_ | refine jA (by omega) ?_ | refine jB (by omega) ?_ | refine jC (by omega) ?_ | refine jD (by omega) ?_ | refine jE rfl ?_ | refine jF (by omega) ?_ | (refine jG ?_; first | with_reducible (first | refine jH ?_ | refine jI ?_ | refine jJ ?_ | refine jK ?_ | refine jL ?_) | refine jM (by omega) ?_ | refine jN (by omega) ?_ | with_reducible refine jM rfl ?_ | refine jM (by assumption) ?_ | refine jN (by assumption) ?_ | refine jM (by decide) ?_ | refine jN (by decide) ?_) | refine jF (ptr_ok tblOk rfl rfl) ?_ | refine jO (fun _ => by kernel_rfl) ?_ | refine jF (by decide) ?_ | refine hS.ld rfl ?_ | refine hS.ldn rfl ?_ | (refine hS.st rfl rfl ?_; intro _ hS))
    refine Cl.mono (Num_spec hW (hS.part (L := L)) (ns := [kn]) harr (by intro n hn; rw [List.mem_singleton] at hn; subst hn; omega) (by simp) (by simp)) ?_
    rintro _ w6 ⟨L1, hW, hS'⟩
    have hS := (hS.call (L := L) hS').sub (List.sublist_cons_self _ _)
    have hW : PackW pb (numB kn) L1 := by simpa using hW
    repeat (first | refine SemW.run tblOk ?_ | refine jA (by omega) ?_ | refine jB (by omega) ?_ | refine jC (by omega) ?_ | refine jD (by omega) ?_ | refine jE rfl ?_ | refine jF (by omega) ?_ | (refine jG ?_; first | with_reducible (first | refine jH ?_ | refine jI ?_ | refine jJ ?_ | refine jK ?_ | refine jL ?_) | refine jM (by omega) ?_ | refine jN (by omega) ?_ | with_reducible refine jM rfl ?_ | refine jM (by assumption) ?_ | refine jN (by assumption) ?_ | refine jM (by decide) ?_ | refine jN (by decide) ?_) | refine jF (ptr_ok tblOk rfl rfl) ?_ | refine jO (fun _ => by kernel_rfl) ?_ | refine jF (by decide) ?_ | refine hS.ld rfl ?_ | refine hS.ldn rfl ?_ | (refine hS.st rfl rfl ?_; intro _ hS))
    refine hS.al ?_
    intro r w7 _ hS
    repeat (first | refine SemW.run tblOk ?_ | refine jA (by omega) ?_ | refine jB (by omega) ?_ | refine jC (by omega) ?_ | refine jD (by omega) ?_ | refine jE rfl ?_ | refine jF (by omega) ?_ | (refine jG ?_; first | with_reducible (first | refine jH ?_ | refine jI ?_ | refine jJ ?_ | refine jK ?_ | refine jL ?_) | refine jM (by omega) ?_ | refine jN (by omega) ?_ | with_reducible refine jM rfl ?_ | refine jM (by assumption) ?_ | refine jN (by assumption) ?_ | refine jM (by decide) ?_ | refine jN (by decide) ?_) | refine jF (ptr_ok tblOk rfl rfl) ?_ | refine jO (fun _ => by kernel_rfl) ?_ | refine jF (by decide) ?_ | refine hS.ld rfl ?_ | refine hS.ldn rfl ?_ | (refine hS.st rfl rfl ?_; intro _ hS))
    refine Cl.mono (Int_spec hW (hS.part (L := L1)) (zs := [c.req]) (hS.arr (b := r) (nodup_chunk hS)) (all1 hok.req).2 (by simp) (by simp only [List.length_singleton]; omega)) ?_
    rintro _ w8 ⟨L2, hW, hS'⟩
    have hS := (hS.call (L := L1) hS').sub (List.sublist_cons_self _ _)
    have hW : PackW pb (numB kn ++ intB c.req) L2 := by simpa [intsB] using hW
    repeat (first | refine SemW.run tblOk ?_ | refine jA (by omega) ?_ | refine jB (by omega) ?_ | refine jC (by omega) ?_ | refine jD (by omega) ?_ | refine jE rfl ?_ | refine jF (by omega) ?_ | (refine jG ?_; first | with_reducible (first | refine jH ?_ | refine jI ?_ | refine jJ ?_ | refine jK ?_ | refine jL ?_) | refine jM (by omega) ?_ | refine jN (by omega) ?_ | with_reducible refine jM rfl ?_ | refine jM (by assumption) ?_ | refine jN (by assumption) ?_ | refine jM (by decide) ?_ | refine jN (by decide) ?_) | refine jF (ptr_ok tblOk rfl rfl) ?_ | refine jO (fun _ => by kernel_rfl) ?_ | refine jF (by decide) ?_ | refine hS.ld rfl ?_ | refine hS.ldn rfl ?_ | (refine hS.st rfl rfl ?_; intro _ hS))
    refine hS.al ?_
    intro b5 w9 _ hS
    repeat (first | refine SemW.run tblOk ?_ | refine jA (by omega) ?_ | refine jB (by omega) ?_ | refine jC (by omega) ?_ | refine jD (by omega) ?_ | refine jE rfl ?_ | refine jF (by omega) ?_ | (refine jG ?_; first | with_reducible (first | refine jH ?_ | refine jI ?_ | refine jJ ?_ | refine jK ?_ | refine jL ?_) | refine jM (by omega) ?_ | refine jN (by omega) ?_ | with_reducible refine jM rfl ?_ | refine jM (by assumption) ?_ | refine jN (by assumption) ?_ | refine jM (by decide) ?_ | refine jN (by decide) ?_) | refine jF (ptr_ok tblOk rfl rfl) ?_ | refine jO (fun _ => by kernel_rfl) ?_ | refine jF (by decide) ?_ | refine hS.ld rfl ?_ | refine hS.ldn rfl ?_ | (refine hS.st rfl rfl ?_; intro _ hS))
    refine Cl.mono (cloneRow_spec (hA.rows.keep hS.nil) hnr) ?_
    rintro _ w10 ⟨a', c', Lr, rfl, hv, hS'⟩
    have hS := hS.callNew hS'
    repeat (first | refine SemW.run tblOk ?_ | refine jA (by omega) ?_ | refine jB (by omega) ?_ | refine jC (by omega) ?_ | refine jD (by omega) ?_ | refine jE rfl ?_ | refine jF (by omega) ?_ | (refine jG ?_; first | with_reducible (first | refine jH ?_ | refine jI ?_ | refine jJ ?_ | refine jK ?_ | refine jL ?_) | refine jM (by omega) ?_ | refine jN (by omega) ?_ | with_reducible refine jM rfl ?_ | refine jM (by assumption) ?_ | refine jN (by assumption) ?_ | refine jM (by decide) ?_ | refine jN (by decide) ?_) | refine jF (ptr_ok tblOk rfl rfl) ?_ | refine jO (fun _ => by kernel_rfl) ?_ | refine jF (by decide) ?_ | refine hS.ld rfl ?_ | refine hS.ldn rfl ?_ | (refine hS.st rfl rfl ?_; intro _ hS))
    have hS : St w [] (Lr ++ ((b5, .cells ⟨cmdC c a' c'⟩ T_api_Command (0, 0)) :: (b4, .cells ⟨[ptr pb]⟩ T_wire_writer (0, 0)) :: (L2 ++ [(b1, .cells ⟨cmdC c a cap⟩ T_api_Command (0, 0))]))) _ := hS
    have hn5 : b5 ∉ keys L2 := nodup_chunk (L := L2) (hS.sub (List.sublist_append_right _ _))
    have hnr2 : ∀ b ∈ keys Lr, b ∉ keys L2 := not_in (hS.sub (List.Sublist.append_left ((List.sublist_cons_self _ _).trans (List.sublist_cons_self _ _)) Lr))
    refine Cl.mono (command_wr hW (hS.part (L := L2)) (cb := b5) (c := c) (a := a') (cap := c') ⟨hn5, fun j v h => hS.cell (b := b5) h, hv.arr hS hnr2, hok, s1, s2, s3⟩ (by simp only [List.length_append, intB]; omega)) ?_
    rintro _ w11 ⟨L3, hW, hS'⟩
    have hS := hS.call (L := L2) hS'
    have hW : PackW pb (cmdB c) L3 := by
      have e : numB kn ++ intB c.req ++ fieldsB (ckOf c.kind) c = cmdB c := by
        unfold cmdB; rw [List.append_assoc, show c.kind.toNat = kn by omega]
      rw [e] at hW; exact hW
    repeat (first | refine SemW.run tblOk ?_ | refine jA (by omega) ?_ | refine jB (by omega) ?_ | refine jC (by omega) ?_ | refine jD (by omega) ?_ | refine jE rfl ?_ | refine jF (by omega) ?_ | (refine jG ?_; first | with_reducible (first | refine jH ?_ | refine jI ?_ | refine jJ ?_ | refine jK ?_ | refine jL ?_) | refine jM (by omega) ?_ | refine jN (by omega) ?_ | with_reducible refine jM rfl ?_ | refine jM (by assumption) ?_ | refine jN (by assumption) ?_ | refine jM (by decide) ?_ | refine jN (by decide) ?_) | refine jF (ptr_ok tblOk rfl rfl) ?_ | refine jO (fun _ => by kernel_rfl) ?_ | refine jF (by decide) ?_ | refine hS.ld rfl ?_ | refine hS.ldn rfl ?_ | (refine hS.st rfl rfl ?_; intro _ hS))
    refine Cl.mono (wseal_spec hW (hS.part (L := L3)) (by omega)) ?_
    rintro _ w12 ⟨rfl, hS'⟩
    have hS := hS.call0 hS'
    rw [if_pos hlen]
    have hread : readC (frameB (cmdB c)) = some (bareF (ckOf c.kind) c) := by
      unfold readC
      rw [openS_frame hlen]
      exact cmdS_cmdB (by omega) hok h1 h2 hsm
    have hfl := frameB_len (cmdB c)
    repeat (first | refine SemW.run tblOk ?_ | refine jA (by omega) ?_ | refine jB (by omega) ?_ | refine jC (by omega) ?_ | refine jD (by omega) ?_ | refine jE rfl ?_ | refine jF (by omega) ?_ | (refine jG ?_; first | with_reducible (first | refine jH ?_ | refine jI ?_ | refine jJ ?_ | refine jK ?_ | refine jL ?_) | refine jM (by omega) ?_ | refine jN (by omega) ?_ | with_reducible refine jM rfl ?_ | refine jM (by assumption) ?_ | refine jN (by assumption) ?_ | refine jM (by decide) ?_ | refine jN (by decide) ?_) | refine jF (ptr_ok tblOk rfl rfl) ?_ | refine jO (fun _ => by kernel_rfl) ?_ | refine jF (by decide) ?_ | refine hS.ld rfl ?_ | refine hS.ldn rfl ?_ | (refine hS.st rfl rfl ?_; intro _ hS))
    refine Cl.mono (ReadCommand_spec (by omega)) ?_
    intro v w13 hP
    rw [hread] at hP
    obtain ⟨a2, cap2, L4, rfl, hv4, hS'⟩ := hP
    have hS := hS.callNew hS'
    have hbr : (bareF (ckOf c.kind) c).rows.length ≤ 1099511627776 := by
      have := (small_iff.1 (small_bare (ckOf c.kind) hsm)).1; omega
    have hrc : RightC c ↔ bareF (ckOf c.kind) c = c := ⟨fun h => h.2.2.2, fun h => ⟨h1, h2, hsm, h⟩⟩
    generalize bareF (ckOf c.kind) c = d at hv4 hbr hrc
    repeat (first | refine SemW.run tblOk ?_ | refine jA (by omega) ?_ | refine jB (by omega) ?_ | refine jC (by omega) ?_ | refine jD (by omega) ?_ | refine jE rfl ?_ | refine jF (by omega) ?_ | (refine jG ?_; first | with_reducible (first | refine jH ?_ | refine jI ?_ | refine jJ ?_ | refine jK ?_ | refine jL ?_) | refine jM (by omega) ?_ | refine jN (by omega) ?_ | with_reducible refine jM rfl ?_ | refine jM (by assumption) ?_ | refine jN (by assumption) ?_ | refine jM (by decide) ?_ | refine jN (by decide) ?_) | refine jF (ptr_ok tblOk rfl rfl) ?_ | refine jO (fun _ => by kernel_rfl) ?_ | refine jF (by decide) ?_ | refine hS.ld rfl ?_ | refine hS.ldn rfl ?_ | (refine hS.st rfl rfl ?_; intro _ hS))
    refine hS.al ?_
    intro b8 w14 _ hS
    repeat (first | refine SemW.run tblOk ?_ | refine jA (by omega) ?_ | refine jB (by omega) ?_ | refine jC (by omega) ?_ | refine jD (by omega) ?_ | refine jE rfl ?_ | refine jF (by omega) ?_ | (refine jG ?_; first | with_reducible (first | refine jH ?_ | refine jI ?_ | refine jJ ?_ | refine jK ?_ | refine jL ?_) | refine jM (by omega) ?_ | refine jN (by omega) ?_ | with_reducible refine jM rfl ?_ | refine jM (by assumption) ?_ | refine jN (by assumption) ?_ | refine jM (by decide) ?_ | refine jN (by decide) ?_) | refine jF (ptr_ok tblOk rfl rfl) ?_ | refine jO (fun _ => by kernel_rfl) ?_ | refine jF (by decide) ?_ | refine hS.ld rfl ?_ | refine hS.ldn rfl ?_ | (refine hS.st rfl rfl ?_; intro _ hS))
    refine Cl.mono (wsame_spec (x := d) (y := c) ⟨rowsAt_vec (L := L4) hS hv4, hA.rows.keep hS.nil, hbr⟩) ?_
    rintro _ w15 ⟨rfl, hS'⟩
    have hS := hS.call0 hS'
    by_cases hdc : d = c
    · rw [decide_eq_true hdc, if_pos (hrc.2 hdc)]
      repeat (first | refine SemW.run tblOk ?_ | refine jA (by omega) ?_ | refine jB (by omega) ?_ | refine jC (by omega) ?_ | refine jD (by omega) ?_ | refine jE rfl ?_ | refine jF (by omega) ?_ | (refine jG ?_; first | with_reducible (first | refine jH ?_ | refine jI ?_ | refine jJ ?_ | refine jK ?_ | refine jL ?_) | refine jM (by omega) ?_ | refine jN (by omega) ?_ | with_reducible refine jM rfl ?_ | refine jM (by assumption) ?_ | refine jN (by assumption) ?_ | refine jM (by decide) ?_ | refine jN (by decide) ?_) | refine jF (ptr_ok tblOk rfl rfl) ?_ | refine jO (fun _ => by kernel_rfl) ?_ | refine jF (by decide) ?_ | refine hS.ld rfl ?_ | refine hS.ldn rfl ?_ | (refine hS.st rfl rfl ?_; intro _ hS))
      exact ⟨rfl, hS.nil⟩
    · rw [decide_eq_false hdc, if_neg (fun h => hdc (hrc.1 h))]
      repeat (first | refine SemW.run tblOk ?_ | refine jA (by omega) ?_ | refine jB (by omega) ?_ | refine jC (by omega) ?_ | refine jD (by omega) ?_ | refine jE rfl ?_ | refine jF (by omega) ?_ | (refine jG ?_; first | with_reducible (first | refine jH ?_ | refine jI ?_ | refine jJ ?_ | refine jK ?_ | refine jL ?_) | refine jM (by omega) ?_ | refine jN (by omega) ?_ | with_reducible refine jM rfl ?_ | refine jM (by assumption) ?_ | refine jN (by assumption) ?_ | refine jM (by decide) ?_ | refine jN (by decide) ?_) | refine jF (ptr_ok tblOk rfl rfl) ?_ | refine jO (fun _ => by kernel_rfl) ?_ | refine jF (by decide) ?_ | refine hS.ld rfl ?_ | refine hS.ldn rfl ?_ | (refine hS.st rfl rfl ?_; intro _ hS))
      exact ⟨rfl, hS.nil⟩
end Go.Proofs.YthpmmfapolcaiaaGreatDoor

/- tarmaclaw23.lives. -/
namespace Go.Proofs.YthpmmfapolcaiaaGreatDoor
open Go Go.Eng Go.Proofs
def liveC : CmdM := { hdC 5 7 with id := 3 }
theorem liveC_ok : liveC.ok := { hdC_ok (⟨by decide, by decide⟩ : i64ok 5) (⟨by decide, by decide⟩ : i64ok 7) with id := ⟨by decide, by decide⟩ }
theorem liveC_right : RightC liveC := by decide
theorem liveC_bytes : cmdB liveC = [5, 14, 6] := by
  have h1 : numB 5 = [5] := numB_lt (by decide)
  have h2 : intB 7 = [14] := numB_lt (by decide)
  have h3 : intB 3 = [6] := numB_lt (by decide)
  show numB 5 ++ (intB 7 ++ intsB [3]) = _
  rw [h1, h2]
  show [5] ++ ([14] ++ [intB 3].flatten) = _
  rw [h3]
  rfl
def liveR : ReplyM := ⟨0, [], 0, 0, 0, 0, false, ⟨0, 0, 0, false, false, false, false, 0, 0, 0, 0, 0, 0⟩, []⟩
theorem liveR_ok : liveR.ok := ⟨ok0, (by nofun), ok0, ok0, ok0, ok0, ⟨ok0, ok0, ok0, ok0, ok0, ok0, ok0, ok0, (by decide : 0 < 256)⟩⟩
theorem liveR_len : (replyB liveR).length = 17 := by
  have h0 : numB 0 = [0] := numB_lt (by decide)
  have h1 : intB 0 = [0] := h0
  have h2 : ∀ l : List Int, (∀ z ∈ l, z = 0) → (intsB l).length = l.length := by
    intro l
    induction l with
    | nil => intro _; rfl
    | cons z l ih =>
      intro hz
      rw [hz z List.mem_cons_self]
      show (intB 0 ++ intsB l).length = _
      rw [h1, List.length_append, ih fun y hy => hz y (List.mem_cons_of_mem _ hy), List.length_cons]; simp; omega
  have a1 := h2 [0] (by simp)
  have a2 := h2 [0, 0, 0, 0] (by simp)
  have a3 := h2 [0, 0, 0, 0, 0, 0, 0] (by simp)
  have e : replyB liveR = intsB [0] ++ (numB 0 ++ (intsB [] ++ (intsB [0, 0, 0, 0] ++ (numB 0 ++ (intsB [0, 0, 0, 0, 0, 0, 0] ++ (numB 0 ++ ((numB 0 ++ []) ++ (numB 0 ++ [])))))))) := rfl
  rw [e, h0]
  simp only [List.length_append, a1, a2, a3, List.length_cons, List.length_nil]
  rfl
set_option maxRecDepth 8000 in
set_option maxHeartbeats 4000000 in
theorem lives_spec {w : World} : Cl Tryz.prog f_tarmaclaw23_lives [] w fun v w' => v = .bool true ∧ St w [] [] w' := by
  have hS := St.start w
  have hA : ArgC w liveC none 0 := ⟨⟨Arr.nil _ _ _, Nat.le_refl _⟩, liveC_ok, Nat.zero_le _, Nat.zero_le _, by nofun⟩
  have hR : ArgR w liveR none 0 := ⟨Arr.nil _ _ _, liveR_ok, Nat.zero_le _, Nat.zero_le _⟩
  have hrl := liveR_len
  have hfl := frameB_len (replyB liveR)
  refine en_tarmaclaw23_lives rfl ?_
  repeat (first | refine SemW.run tblOk ?_ | refine jA (by omega) ?_ | refine jB (by omega) ?_ | refine jC (by omega) ?_ | refine jD (by omega) ?_ | refine jE rfl ?_ | refine jF (by omega) ?_ | (refine jG ?_; first | with_reducible (first | refine jH ?_ | refine jI ?_ | refine jJ ?_ | refine jK ?_ | refine jL ?_) | refine jM (by omega) ?_ | refine jN (by omega) ?_ | with_reducible refine jM rfl ?_ | refine jM (by assumption) ?_ | refine jN (by assumption) ?_ | refine jM (by decide) ?_ | refine jN (by decide) ?_) | refine jF (ptr_ok tblOk rfl rfl) ?_ | refine jO (fun _ => by kernel_rfl) ?_ | refine jF (by decide) ?_)
  refine Cl.mono (Command_spec hA) ?_
  rintro _ w1 ⟨rfl, hS'⟩
  have hS := hS.call0 hS'
  clear hA
  unfold cmdO
  rw [if_pos liveC_right, liveC_bytes]
  repeat (first | refine SemW.run tblOk ?_ | refine jA (by omega) ?_ | refine jB (by omega) ?_ | refine jC (by omega) ?_ | refine jD (by omega) ?_ | refine jE rfl ?_ | refine jF (by omega) ?_ | (refine jG ?_; first | with_reducible (first | refine jH ?_ | refine jI ?_ | refine jJ ?_ | refine jK ?_ | refine jL ?_) | refine jM (by omega) ?_ | refine jN (by omega) ?_ | with_reducible refine jM rfl ?_ | refine jM (by assumption) ?_ | refine jN (by assumption) ?_ | refine jM (by decide) ?_ | refine jN (by decide) ?_) | refine jF (ptr_ok tblOk rfl rfl) ?_ | refine jO (fun _ => by kernel_rfl) ?_ | refine jF (by decide) ?_)
  refine hS.al ?_
  intro q w2 _ hS
  repeat (first | refine SemW.run tblOk ?_ | refine jA (by omega) ?_ | refine jB (by omega) ?_ | refine jC (by omega) ?_ | refine jD (by omega) ?_ | refine jE rfl ?_ | refine jF (by omega) ?_ | (refine jG ?_; first | with_reducible (first | refine jH ?_ | refine jI ?_ | refine jJ ?_ | refine jK ?_ | refine jL ?_) | refine jM (by omega) ?_ | refine jN (by omega) ?_ | with_reducible refine jM rfl ?_ | refine jM (by assumption) ?_ | refine jN (by assumption) ?_ | refine jM (by decide) ?_ | refine jN (by decide) ?_) | refine jF (ptr_ok tblOk rfl rfl) ?_ | refine jO (fun _ => by kernel_rfl) ?_ | refine jF (by decide) ?_)
  refine Cl.mono (Seal_spec (ps := [[5, 14, 6]]) (by decide) (hS.arr (b := q) (by simp))) ?_
  rintro _ w3 ⟨rfl, hS'⟩
  have hS := hS.call0 hS'
  rw [if_pos (by decide), sealB_one]
  repeat (first | refine SemW.run tblOk ?_ | refine jA (by omega) ?_ | refine jB (by omega) ?_ | refine jC (by omega) ?_ | refine jD (by omega) ?_ | refine jE rfl ?_ | refine jF (by omega) ?_ | (refine jG ?_; first | with_reducible (first | refine jH ?_ | refine jI ?_ | refine jJ ?_ | refine jK ?_ | refine jL ?_) | refine jM (by omega) ?_ | refine jN (by omega) ?_ | with_reducible refine jM rfl ?_ | refine jM (by assumption) ?_ | refine jN (by assumption) ?_ | refine jM (by decide) ?_ | refine jN (by decide) ?_) | refine jF (ptr_ok tblOk rfl rfl) ?_ | refine jO (fun _ => by kernel_rfl) ?_ | refine jF (by decide) ?_)
  refine Cl.mono (Reply_spec (hR.keep hS.nil)) ?_
  rintro _ w4 ⟨rfl, hS'⟩
  have hS := hS.call0 hS'
  unfold repOut
  rw [if_pos ⟨rfl, by omega⟩]
  repeat (first | refine SemW.run tblOk ?_ | refine jA (by omega) ?_ | refine jB (by omega) ?_ | refine jC (by omega) ?_ | refine jD (by omega) ?_ | refine jE rfl ?_ | refine jF (by omega) ?_ | (refine jG ?_; first | with_reducible (first | refine jH ?_ | refine jI ?_ | refine jJ ?_ | refine jK ?_ | refine jL ?_) | refine jM (by omega) ?_ | refine jN (by omega) ?_ | with_reducible refine jM rfl ?_ | refine jM (by assumption) ?_ | refine jN (by assumption) ?_ | refine jM (by decide) ?_ | refine jN (by decide) ?_) | refine jF (ptr_ok tblOk rfl rfl) ?_ | refine jO (fun _ => by kernel_rfl) ?_ | refine jF (by decide) ?_)
  exact ⟨by rw [decide_eq_true (by omega)], hS.nil⟩
end Go.Proofs.YthpmmfapolcaiaaGreatDoor

/- Rows, passengers handed in, opened. -/
namespace Go.Proofs.YthpmmfapolcaiaaGreatDoor
open Go Go.Eng Go.Proofs
open Go.ChangeShapes Go.WideShapes Go.ChangeAt Go.RowKit

theorem opens_row : Opens Tryz.prog T_api_Row RRow (fun r => r.seats.length + 6) := by
  refine Opens.map (Opens.struct (sz := 5) Tryz.underlying120 (by kernel_rfl) (OpensFs.cons (s := 1) rfl (by kernel_rfl) (Opens.int Tryz.underlying3) (OpensFs.cons (s := 1) rfl (by kernel_rfl) (Opens.int Tryz.underlying3) (OpensFs.cons (s := 1) rfl (by kernel_rfl) (Opens.int Tryz.underlying3)
    (OpensFs.cons (s := 1) rfl (by kernel_rfl) (Opens.bool Tryz.underlying4) (OpensFs.cons (s := 1) rfl (by kernel_rfl) (Opens.str Tryz.underlying9) OpensFs.nil)))))) (fun x => ⟨x.1, x.2.1, x.2.2.1, x.2.2.2.1, x.2.2.2.2.1⟩) ?_ (fun x => by (try simp only); omega)
  intro W cs x h
  obtain ⟨e1, w1, h⟩ := pair_int h
  obtain ⟨e2, w2, h⟩ := pair_int h
  obtain ⟨e3, w3, h⟩ := pair_int h
  obtain ⟨e4, h⟩ := pair_bool h
  obtain ⟨e5, h⟩ := pair_str h
  have h : (((((cs.drop 1).drop 1).drop 1).drop 1).drop 1) = [] := h
  rw [h] at e5; rw [e5] at e4; rw [e4] at e3; rw [e3] at e2; rw [e2] at e1
  exact ⟨e1, wf_i64b w1, wf_i64b w2, wf_i64b w3⟩
theorem len4 {α : Type} {cs : List α} (h : cs.length = 4) : ∃ a b c d, cs = [a, b, c, d] := by
  match cs, h with
  | [a, b, c, d], _ => exact ⟨a, b, c, d, rfl⟩
def RInts4 : CellR (Int × Int × Int × Int) := fun _ cs x => cs = [.int .i64 x.1, .int .i64 x.2.1, .int .i64 x.2.2.1, .int .i64 x.2.2.2] ∧ i64b x.1 ∧ i64b x.2.1 ∧ i64b x.2.2.1 ∧ i64b x.2.2.2
theorem Opens.ints4 {P : Program} {t e : TypeId} (ht : P.underlying t = some (.array 4 e)) (he : P.underlying e = some (.int .i64)) (hce : P.cellsOf e = 1) (hct : P.cellsOf t = 4) : Opens P t RInts4 (fun _ => 4) := by
  refine ⟨fun {H enc W fuel cs x} h => ?_⟩
  obtain ⟨xs, n, -, rfl, hl, hxl, hx⟩ := DataW.trod_array ht h
  rw [hct] at hl
  rw [hce] at hx
  obtain ⟨a, b, c, d, rfl⟩ := len4 hl
  have g : ∀ i v, i < 4 → ([a, b, c, d] : List Value)[i]? = some v → ∃ z, v = .int .i64 z ∧ i64b z ∧ (xs[i]?).map (fun y => Rows.uptoBulk y.1) = some 1 := by
    intro i v hi hv
    have h1 := hx i hi
    have h2 : ((([a, b, c, d] : List Value).drop (i * 1)).take 1) = [v] := by
      rw [Nat.mul_one]
      match i, hi with
      | 0, _ => simpa using hv
      | 1, _ => simpa using hv
      | 2, _ => simpa using hv
      | 3, _ => simpa using hv
    rw [h2] at h1
    rw [List.getElem?_eq_getElem (show i < xs.length by omega)] at h1
    obtain ⟨z, h3, h4, h5⟩ := DataW.trod_int he h1
    refine ⟨z, by simpa using h3, wf_i64b h5, ?_⟩
    rw [List.getElem?_eq_getElem (show i < xs.length by omega), h4]; rfl
  obtain ⟨z0, rfl, w0, b0⟩ := g 0 a (by omega) rfl
  obtain ⟨z1, rfl, w1, b1⟩ := g 1 b (by omega) rfl
  obtain ⟨z2, rfl, w2, b2⟩ := g 2 c (by omega) rfl
  obtain ⟨z3, rfl, w3, b3⟩ := g 3 d (by omega) rfl
  refine ⟨(z0, z1, z2, z3), ⟨rfl, w0, w1, w2, w3⟩, ?_⟩
  obtain ⟨x0, x1, x2, x3, rfl⟩ := len4 hxl
  simp only [List.getElem?_cons_zero, List.getElem?_cons_succ, Option.map_some, Option.some.injEq] at b0 b1 b2 b3
  simp only [List.map_cons, List.map_nil, Rows.uptoBulk, Rows.uptoBulkAll]
  omega
theorem pair_ints4 {β : Type} {S : CellR β} {W : World} {cs : List Value} {x : (Int × Int × Int × Int) × β} (h : RPair 4 RInts4 S W cs x) : cs = .int .i64 x.1.1 :: .int .i64 x.1.2.1 :: .int .i64 x.1.2.2.1 :: .int .i64 x.1.2.2.2 :: cs.drop 4 ∧ (i64b x.1.1 ∧ i64b x.1.2.1 ∧ i64b x.1.2.2.1 ∧ i64b x.1.2.2.2) ∧ S W (cs.drop 4) x.2 := by
  refine ⟨?_, h.1.2, h.2⟩
  conv => lhs; rw [← List.take_append_drop 4 cs, h.1.1]
  rfl
theorem takeN {n : Nat} {cs l : List Value} (h : cs.take n = l) : cs = l ++ cs.drop n := by rw [← h, List.take_append_drop]
def RWho : CellR (Int × Bool × Bool) := fun _ cs x => cs = [.int .i64 x.1, .bool x.2.1, .bool x.2.2] ∧ i64b x.1
theorem opens_who : Opens Tryz.prog T_api_Who RWho (fun _ => 4) := by
  refine Opens.map (Opens.struct (sz := 3) Tryz.underlying26 (by kernel_rfl) (OpensFs.cons (s := 1) rfl (by kernel_rfl) (Opens.int Tryz.underlying3) (OpensFs.cons (s := 1) rfl (by kernel_rfl) (Opens.bool Tryz.underlying4) (OpensFs.cons (s := 1) rfl (by kernel_rfl) (Opens.bool Tryz.underlying4) OpensFs.nil)))) (fun x => (x.1, x.2.1, x.2.2.1)) ?_ (fun x => by (try simp only); omega)
  intro W cs x h
  obtain ⟨e1, w1, h⟩ := pair_int h
  obtain ⟨e2, h⟩ := pair_bool h
  obtain ⟨e3, h⟩ := pair_bool h
  have h : (((cs.drop 1).drop 1).drop 1) = [] := h
  rw [h] at e3; rw [e3] at e2; rw [e2] at e1
  exact ⟨e1, wf_i64b w1⟩
def RSeatC : CellR (Int × Nat) := fun _ cs x => cs = [.int .i64 x.1, .int .u8 x.2] ∧ i64b x.1 ∧ x.2 < 256
theorem opens_seatC : Opens Tryz.prog T_api_Seat RSeatC (fun _ => 3) := by
  refine Opens.map (Opens.struct (sz := 2) Tryz.underlying28 (by kernel_rfl) (OpensFs.cons (s := 1) rfl (by kernel_rfl) (Opens.int Tryz.underlying3) (OpensFs.cons (s := 1) rfl (by kernel_rfl) (Opens.int Tryz.underlying5) OpensFs.nil))) (fun x => (x.1, x.2.1.toNat)) ?_ (fun x => by (try simp only); omega)
  intro W cs x h
  obtain ⟨e1, w1, h⟩ := pair_int h
  obtain ⟨e2, w2, h⟩ := pair_int h
  have h : ((cs.drop 1).drop 1) = [] := h
  rw [h] at e2; rw [e2] at e1
  have hw := wf_u8b w2
  refine ⟨?_, wf_i64b w1, by simp only; omega⟩
  simp only
  rw [show ((x.2.1.toNat : Nat) : Int) = x.2.1 by omega]; exact e1
theorem opens_pax : Opens Tryz.prog T_api_Pax RPax (fun _ => 14) := by
  refine Opens.map (Opens.struct (sz := 13) Tryz.underlying30 (by kernel_rfl) (OpensFs.cons (s := 1) rfl (by kernel_rfl) (Opens.int Tryz.underlying3) (OpensFs.cons (s := 1) rfl (by kernel_rfl) (Opens.int Tryz.underlying3) (OpensFs.cons (s := 3) rfl (by kernel_rfl) opens_who
    (OpensFs.cons (s := 1) rfl (by kernel_rfl) (Opens.bool Tryz.underlying4) (OpensFs.cons (s := 1) rfl (by kernel_rfl) (Opens.bool Tryz.underlying4) (OpensFs.cons (s := 1) rfl (by kernel_rfl) (Opens.int Tryz.underlying3) (OpensFs.cons (s := 1) rfl (by kernel_rfl) (Opens.int Tryz.underlying3)
    (OpensFs.cons (s := 1) rfl (by kernel_rfl) (Opens.int Tryz.underlying3) (OpensFs.cons (s := 1) rfl (by kernel_rfl) (Opens.int Tryz.underlying3) (OpensFs.cons (s := 2) rfl (by kernel_rfl) opens_seatC OpensFs.nil)))))))))))
    (fun x => ⟨x.1, x.2.1, x.2.2.1.1, x.2.2.1.2.1, x.2.2.1.2.2, x.2.2.2.1, x.2.2.2.2.1, x.2.2.2.2.2.1, x.2.2.2.2.2.2.1, x.2.2.2.2.2.2.2.1, x.2.2.2.2.2.2.2.2.1, x.2.2.2.2.2.2.2.2.2.1.1, x.2.2.2.2.2.2.2.2.2.1.2⟩) ?_ (fun x => by (try simp only); omega)
  intro W cs x h
  obtain ⟨e1, w1, h⟩ := pair_int h
  obtain ⟨e2, w2, h⟩ := pair_int h
  obtain ⟨⟨e3, w3⟩, h⟩ := h
  have e3 := takeN e3
  obtain ⟨e4, h⟩ := pair_bool h
  obtain ⟨e5, h⟩ := pair_bool h
  obtain ⟨e6, w6, h⟩ := pair_int h
  obtain ⟨e7, w7, h⟩ := pair_int h
  obtain ⟨e8, w8, h⟩ := pair_int h
  obtain ⟨e9, w9, h⟩ := pair_int h
  obtain ⟨⟨e10, w10, w11⟩, h⟩ := h
  have e10 := takeN e10
  have h : (((((((((((cs.drop 1).drop 1).drop 3).drop 1).drop 1).drop 1).drop 1).drop 1).drop 1).drop 2)) = [] := h
  rw [h] at e10; rw [e10] at e9; rw [e9] at e8; rw [e8] at e7; rw [e7] at e6; rw [e6] at e5; rw [e5] at e4; rw [e4] at e3; rw [e3] at e2; rw [e2] at e1
  exact ⟨e1, wf_i64b w1, wf_i64b w2, w3, wf_i64b w6, wf_i64b w7, wf_i64b w8, wf_i64b w9, w10, w11⟩
end Go.Proofs.YthpmmfapolcaiaaGreatDoor

/- Commands and replies handed in, opened. -/
namespace Go.Proofs.YthpmmfapolcaiaaGreatDoor
open Go Go.Eng Go.Proofs
open Go.ChangeShapes Go.WideShapes Go.ChangeAt Go.RowKit
def RCmd : CellR CmdM := fun W cs c => ∃ v, cs = [.int .i64 c.kind, .int .i64 c.req, .int .i64 c.id, .int .i64 c.fl, .int .i64 c.eq, .int .i64 c.cls, .int .i64 c.wcab, .bool c.fit, .bool c.inf, .bool c.vol, .bool c.stb, .int .i64 c.num, .int .u8 c.lt, v, .int .i64 c.l0, .int .i64 c.l1, .int .i64 c.l2, .int .i64 c.l3, Str c.text] ∧ RSl 5 RRow W [v] c.rows ∧ (∀ rs, c.rows = rs → (∀ r ∈ rs, r.ok) → c.ok)
theorem opens_cmd : Opens Tryz.prog T_api_Command RCmd (fun c => (c.rows.map fun r => r.seats.length + 6).sum + c.text.length + 3) := by
  refine Opens.map (Opens.struct (sz := 19) Tryz.underlying62 (by kernel_rfl) (OpensFs.cons (s := 1) rfl (by kernel_rfl) (Opens.int Tryz.underlying3) (OpensFs.cons (s := 1) rfl (by kernel_rfl) (Opens.int Tryz.underlying3) (OpensFs.cons (s := 1) rfl (by kernel_rfl) (Opens.int Tryz.underlying3)
    (OpensFs.cons (s := 1) rfl (by kernel_rfl) (Opens.int Tryz.underlying3) (OpensFs.cons (s := 1) rfl (by kernel_rfl) (Opens.int Tryz.underlying3) (OpensFs.cons (s := 1) rfl (by kernel_rfl) (Opens.int Tryz.underlying3) (OpensFs.cons (s := 3) rfl (by kernel_rfl) opens_who
    (OpensFs.cons (s := 1) rfl (by kernel_rfl) (Opens.bool Tryz.underlying4) (OpensFs.cons (s := 1) rfl (by kernel_rfl) (Opens.bool Tryz.underlying4) (OpensFs.cons (s := 2) rfl (by kernel_rfl) opens_seatC
    (OpensFs.cons (s := 1) rfl (by kernel_rfl) (Opens.slice Tryz.underlying60 (show Tryz.prog.cellsOf T_api_Row = 5 by kernel_rfl) (by decide) opens_row) (OpensFs.cons (s := 4) rfl (by kernel_rfl) (Opens.ints4 Tryz.underlying24 Tryz.underlying3 (by kernel_rfl) (by kernel_rfl))
    (OpensFs.cons (s := 1) rfl (by kernel_rfl) (Opens.str Tryz.underlying9) OpensFs.nil))))))))))))))
    (fun x => ⟨x.1, x.2.1, x.2.2.1, x.2.2.2.1, x.2.2.2.2.1, x.2.2.2.2.2.1, x.2.2.2.2.2.2.1.1, x.2.2.2.2.2.2.1.2.1, x.2.2.2.2.2.2.1.2.2, x.2.2.2.2.2.2.2.1, x.2.2.2.2.2.2.2.2.1, x.2.2.2.2.2.2.2.2.2.1.1, x.2.2.2.2.2.2.2.2.2.1.2, x.2.2.2.2.2.2.2.2.2.2.1,
      x.2.2.2.2.2.2.2.2.2.2.2.1.1, x.2.2.2.2.2.2.2.2.2.2.2.1.2.1, x.2.2.2.2.2.2.2.2.2.2.2.1.2.2.1, x.2.2.2.2.2.2.2.2.2.2.2.1.2.2.2, x.2.2.2.2.2.2.2.2.2.2.2.2.1⟩) ?_ (fun x => by (try simp only); omega)
  intro W cs x h
  obtain ⟨e1, w1, h⟩ := pair_int h
  obtain ⟨e2, w2, h⟩ := pair_int h
  obtain ⟨e3, w3, h⟩ := pair_int h
  obtain ⟨e4, w4, h⟩ := pair_int h
  obtain ⟨e5, w5, h⟩ := pair_int h
  obtain ⟨e6, w6, h⟩ := pair_int h
  obtain ⟨⟨e7, w7⟩, h⟩ := h
  have e7 := takeN e7
  obtain ⟨e8, h⟩ := pair_bool h
  obtain ⟨e9, h⟩ := pair_bool h
  obtain ⟨⟨e10, w10, w11⟩, h⟩ := h
  have e10 := takeN e10
  obtain ⟨v, e11, hr, h⟩ := pair_sl h
  obtain ⟨e12, ⟨w12, w13, w14, w15⟩, h⟩ := pair_ints4 h
  obtain ⟨e13, h⟩ := pair_str h
  have h : (((((((((((((cs.drop 1).drop 1).drop 1).drop 1).drop 1).drop 1).drop 3).drop 1).drop 1).drop 2).drop 1).drop 4).drop 1) = [] := h
  rw [h] at e13; rw [e13] at e12; rw [e12] at e11; rw [e11] at e10; rw [e10] at e9; rw [e9] at e8; rw [e8] at e7; rw [e7] at e6; rw [e6] at e5; rw [e5] at e4; rw [e4] at e3; rw [e3] at e2; rw [e2] at e1
  exact ⟨v, e1, hr, fun rs hrs hall => ⟨wf_i64b w1, wf_i64b w2, wf_i64b w3, wf_i64b w4, wf_i64b w5, wf_i64b w6, w7, w10, w11, (by rw [hrs]; exact hall), w12, w13, w14, w15⟩⟩
theorem rsl_rows {W : World} {a : Option Addr} {cap : Nat} {rs : List RowM} (h : RSl 5 RRow W [.slice a rs.length cap] rs) : RowsAt W a cap rs ∧ ∀ r ∈ rs, r.ok := by
  refine ⟨⟨fun j v hj => ?_, ?_⟩, fun r hr => ?_⟩
  · have hl := flatRow_len rs
    have hjl := (List.getElem?_eq_some_iff.1 hj).1
    have hk : j / 5 < rs.length := by omega
    obtain ⟨b, off, cs, h1, h2, h3, h4, -⟩ := h.at hk
    refine ⟨b, off, h1, by simp, ?_⟩
    have := h3 (j % 5) v (by rw [h4, ← flatRow_at rs (j / 5) hk (j % 5) (by omega), show j / 5 * 5 + j % 5 = j by omega]; exact hj)
    rw [show j / 5 * 5 + j % 5 = j by omega] at this
    exact this
  · obtain ⟨a', cap', h1, h2, -⟩ := h.ex
    have : cap = cap' := by simpa using (List.cons.inj h1).1 |> fun h => (Value.slice.inj h).2.2
    omega
  · obtain ⟨i, hi, rfl⟩ := List.mem_iff_getElem.1 hr
    obtain ⟨b, off, cs, -, -, -, -, h5⟩ := h.at hi
    exact h5
theorem seats_sum {rs : List RowM} : ∀ r ∈ rs, r.seats.length + 6 ≤ (rs.map fun r => r.seats.length + 6).sum := fun r hr => by
  obtain ⟨i, hi, rfl⟩ := List.mem_iff_getElem.1 hr
  exact rowsW_at rs i hi
theorem open_cmdAt {H : Type} {enc : TypeId × Value → H} {W : World} {v : Value} {d : DataW H} {p : List MemPlace} (hd : DataW.Trod enc Tryz.prog W 0 (fun _ => true) true T_api_Command v d p) :
    ∃ (c : CmdM) (a : Option Addr) (cap : Nat), v = cmdV c a cap ∧ (Rows.uptoBulk d ≤ 1048576 → ArgC W c a cap) := by
  obtain ⟨c, ⟨u, hcs, h1, hok⟩, hb⟩ := Trod.out hd opens_cmd
  obtain ⟨a, cap, rfl, -, -, h1⟩ := h1.inv
  obtain ⟨hR, hall⟩ := rsl_rows h1
  refine ⟨c, a, cap, ?_, fun hB => ⟨hR, hok _ rfl hall, ?_, by omega, fun r hr => ?_⟩⟩
  · cases v with
    | agg cs => cases cs; simp only [Value.cells] at hcs; rw [hcs]
    | _ => simp [Value.cells] at hcs
  · have := rowsW_len c.rows
    unfold rowsW at this
    omega
  · have := seats_sum (rs := c.rows) r hr
    omega
def RReply : CellR ReplyM := fun W cs r => ∃ v, cs = [.int .i64 r.code, v, .int .i64 r.n0, .int .i64 r.n1, .int .i64 r.n2, .int .i64 r.n3, .bool r.over, .int .i64 r.pax.id, .int .i64 r.pax.flight, .int .i64 r.pax.cab, .bool r.pax.fit, .bool r.pax.infant, .bool r.pax.vol, .bool r.pax.stb, .int .i64 r.pax.cls, .int .i64 r.pax.status, .int .i64 r.pax.tick, .int .i64 r.pax.pass, .int .i64 r.pax.num, .int .u8 r.pax.c, Str r.text] ∧ RSl 1 (RInt .i64) W [v] r.ids ∧ ((∀ z ∈ r.ids, i64ok z) → r.ok)
theorem opens_reply : Opens Tryz.prog T_api_Reply RReply (fun r => r.ids.length + r.text.length) := by
  have hc : ∀ (l : List Int), (l.map fun _ => 1).sum = l.length := fun l => by
    induction l with
    | nil => rfl
    | cons a l ih => simp only [List.map_cons, List.sum_cons, List.length_cons, ih]; omega
  refine Opens.map (Opens.struct (sz := 21) Tryz.underlying32 (by kernel_rfl) (OpensFs.cons (s := 1) rfl (by kernel_rfl) (Opens.int Tryz.underlying22) (OpensFs.cons (s := 1) rfl (by kernel_rfl) (Opens.slice Tryz.underlying23 (show Tryz.prog.cellsOf T_int = 1 by kernel_rfl) (by decide) (Opens.int Tryz.underlying3))
    (OpensFs.cons (s := 4) rfl (by kernel_rfl) (Opens.ints4 Tryz.underlying24 Tryz.underlying3 (by kernel_rfl) (by kernel_rfl)) (OpensFs.cons (s := 1) rfl (by kernel_rfl) (Opens.bool Tryz.underlying4) (OpensFs.cons (s := 13) rfl (by kernel_rfl) opens_pax
    (OpensFs.cons (s := 1) rfl (by kernel_rfl) (Opens.str Tryz.underlying9) OpensFs.nil)))))))
    (fun x => ⟨x.1, x.2.1, x.2.2.1.1, x.2.2.1.2.1, x.2.2.1.2.2.1, x.2.2.1.2.2.2, x.2.2.2.1, x.2.2.2.2.1, x.2.2.2.2.2.1⟩) ?_ (fun x => by simp only [hc]; omega)
  intro W cs x h
  obtain ⟨e1, w1, h⟩ := pair_int h
  obtain ⟨v, e2, hr, h⟩ := pair_sl h
  obtain ⟨e3, ⟨w3, w4, w5, w6⟩, h⟩ := pair_ints4 h
  obtain ⟨e4, h⟩ := pair_bool h
  obtain ⟨⟨e5, w7⟩, h⟩ := h
  have e5 := takeN e5
  obtain ⟨e6, h⟩ := pair_str h
  have h : ((((((cs.drop 1).drop 1).drop 4).drop 1).drop 13).drop 1) = [] := h
  rw [h] at e6; rw [e6] at e5; rw [e5] at e4; rw [e4] at e3; rw [e3] at e2; rw [e2] at e1
  exact ⟨v, e1, hr, fun hids => ⟨wf_i64b w1, hids, w3, w4, w5, w6, w7⟩⟩
theorem rsl_ints {W : World} {a : Option Addr} {cap : Nat} {l : List Int} (h : RSl 1 (RInt .i64) W [.slice a l.length cap] l) : Arr W [] a (l.map intV) ∧ ∀ z ∈ l, i64ok z := by
  refine ⟨fun j v hj => ?_, fun z hz => ?_⟩
  · rw [List.getElem?_map] at hj
    have hk : j < l.length := by
      cases e : l[j]? with
      | none => rw [e] at hj; cases hj
      | some z => exact (List.getElem?_eq_some_iff.1 e).1
    rw [List.getElem?_eq_getElem hk] at hj
    obtain ⟨b, off, cs, h1, h2, h3, h4⟩ := h.at hk
    refine ⟨b, off, h1, by simp, ?_⟩
    have h5 := h3 0 v (by rw [h4.1]; exact hj)
    rwa [Nat.mul_one, Nat.add_zero] at h5
  · obtain ⟨i, hi, rfl⟩ := List.mem_iff_getElem.1 hz
    obtain ⟨b, off, cs, -, -, -, h4⟩ := h.at hi
    exact wf_i64b h4.2
theorem open_repAt {H : Type} {enc : TypeId × Value → H} {W : World} {v : Value} {d : DataW H} {p : List MemPlace} (hd : DataW.Trod enc Tryz.prog W 0 (fun _ => true) true T_api_Reply v d p) :
    ∃ (r : ReplyM) (a : Option Addr) (cap : Nat), v = .agg ⟨replyC r a cap⟩ ∧ (Rows.uptoBulk d ≤ 1048576 → ArgR W r a cap) := by
  obtain ⟨r, ⟨u, hcs, h1, hok⟩, hb⟩ := Trod.out hd opens_reply
  obtain ⟨a, cap, rfl, -, -, h1⟩ := h1.inv
  obtain ⟨hR, hall⟩ := rsl_ints h1
  refine ⟨r, a, cap, ?_, fun hB => ⟨hR, hok hall, by omega, by omega⟩⟩
  cases v with
  | agg cs => cases cs; simp only [Value.cells] at hcs; rw [hcs]
  | _ => simp [Value.cells] at hcs
end Go.Proofs.YthpmmfapolcaiaaGreatDoor

/- What the rows list of strconv's two errors, as a fact on the world. -/
namespace Go.Proofs.YthpmmfapolcaiaaGreatDoor
open Go Go.Eng Go.Proofs Go.RowKit
theorem errStar : "*" ++ "errors.errorString" = "*errors.errorString" := by decide
theorem errRow (u : TypeId) (h : Tryz.prog.typeName? 3 u = some "*errors.errorString") : u = 253 :=
  typeName_ptr_named (nm := "errors.errorString") (by rw [errStar]; kernel_rfl) (by kernel_rfl) (by decide) u (by rw [errStar]; exact h)
theorem errVars_of {r : List (String × DataW Unit)} {W : World} (h : laidMet Tryz.prog (("strconv.ErrRange", Rows.laid_strconv_ErrRange) :: ("strconv.ErrSyntax", Rows.laid_strconv_ErrSyntax) :: r) W) : ErrVars W := by
  obtain ⟨f, hf, hft, hfo⟩ : ∃ f : Field, Tryz.prog.underlying 255 = some (.struct #[f]) ∧ f.type = 9 ∧ f.offset = 0 := ⟨⟨"s", 9, 0, false, "", "errors", 0⟩, by kernel_rfl, rfl, rfl⟩
  have hi : Tryz.prog.underlying 134 = some (.interface (Tryz.prog.methodsAt 134)) := by kernel_rfl
  have g1 : Tryz.prog.globalNamed "strconv.ErrRange" = some errG1 := by kernel_rfl
  have g0 : Tryz.prog.globalNamed "strconv.ErrSyntax" = some errG0 := by kernel_rfl
  obtain ⟨a1, s1, hv1, -, -, -⟩ := laid_sentinel h g1 (ti := 134) (by kernel_rfl) hi errRow (te := 255) (by kernel_rfl) hf hft hfo (by kernel_rfl) (by kernel_rfl) (by kernel_rfl)
  obtain ⟨a0, s0, hv0, -, -, -⟩ := laid_sentinel h.tail g0 (ti := 134) (by kernel_rfl) hi errRow (te := 255) (by kernel_rfl) hf hft hfo (by kernel_rfl) (by kernel_rfl) (by kernel_rfl)
  exact ⟨⟨_, _, by have h0 := World.var?_cell g0 hv0 0; simpa using h0⟩, ⟨_, _, by have h0 := World.var?_cell g1 hv1 0; simpa using h0⟩⟩
end Go.Proofs.YthpmmfapolcaiaaGreatDoor

/- tarmaclaw23.WireReplies. -/
namespace Go.Proofs.YthpmmfapolcaiaaGreatDoor
open Go Go.Eng Go.Proofs
set_option maxRecDepth 4000 in
set_option maxHeartbeats 8000000 in
theorem WireReplies_spec {w : World} {r : ReplyM} {b : Option Addr} {cb : Nat} {t : Bytes} (hr : ArgR w r b cb) (ht : t.length ≤ 1048576) (hE : ErrVars w) :
    Cl Tryz.prog f_tarmaclaw23_WireReplies [.agg ⟨replyC r b cb⟩, Str t] w fun v w' => v = .bool true ∧ St w [] [] w' := by
  have hS := St.start w
  refine en_tarmaclaw23_WireReplies rfl ?_
  repeat (first | refine SemW.run tblOk ?_ | refine jA (by omega) ?_ | refine jB (by omega) ?_ | refine jC (by omega) ?_ | refine jD (by omega) ?_ | refine jE rfl ?_ | refine jF (by omega) ?_ | (refine jG ?_; first | with_reducible (first | refine jH ?_ | refine jI ?_ | refine jJ ?_ | refine jK ?_ | refine jL ?_) | refine jM (by omega) ?_ | refine jN (by omega) ?_ | with_reducible refine jM rfl ?_ | refine jM (by assumption) ?_ | refine jN (by assumption) ?_ | refine jM (by decide) ?_ | refine jN (by decide) ?_) | refine jF (ptr_ok tblOk rfl rfl) ?_ | refine jO (fun _ => by kernel_rfl) ?_ | refine jF (by decide) ?_)
  refine hS.al ?_
  intro b1 w1 _ hS
  repeat (first | refine SemW.run tblOk ?_ | refine jA (by omega) ?_ | refine jB (by omega) ?_ | refine jC (by omega) ?_ | refine jD (by omega) ?_ | refine jE rfl ?_ | refine jF (by omega) ?_ | (refine jG ?_; first | with_reducible (first | refine jH ?_ | refine jI ?_ | refine jJ ?_ | refine jK ?_ | refine jL ?_) | refine jM (by omega) ?_ | refine jN (by omega) ?_ | with_reducible refine jM rfl ?_ | refine jM (by assumption) ?_ | refine jN (by assumption) ?_ | refine jM (by decide) ?_ | refine jN (by decide) ?_) | refine jF (ptr_ok tblOk rfl rfl) ?_ | refine jO (fun _ => by kernel_rfl) ?_ | refine jF (by decide) ?_ | refine hS.ld rfl ?_ | refine hS.ldn rfl ?_ | (refine hS.st rfl rfl ?_; intro _ hS))
  refine Cl.mono lives_spec ?_
  rintro _ w3 ⟨rfl, hS'⟩
  have hS := hS.call0 hS'
  repeat (first | refine SemW.run tblOk ?_ | refine jA (by omega) ?_ | refine jB (by omega) ?_ | refine jC (by omega) ?_ | refine jD (by omega) ?_ | refine jE rfl ?_ | refine jF (by omega) ?_ | (refine jG ?_; first | with_reducible (first | refine jH ?_ | refine jI ?_ | refine jJ ?_ | refine jK ?_ | refine jL ?_) | refine jM (by omega) ?_ | refine jN (by omega) ?_ | with_reducible refine jM rfl ?_ | refine jM (by assumption) ?_ | refine jN (by assumption) ?_ | refine jM (by decide) ?_ | refine jN (by decide) ?_) | refine jF (ptr_ok tblOk rfl rfl) ?_ | refine jO (fun _ => by kernel_rfl) ?_ | refine jF (by decide) ?_ | refine hS.ld rfl ?_ | refine hS.ldn rfl ?_ | (refine hS.st rfl rfl ?_; intro _ hS))
  refine Cl.mono (Reply_spec (hr.keep hS.nil)) ?_
  rintro _ w4 ⟨rfl, hS'⟩
  have hS := hS.call0 hS'
  obtain ⟨so, eo, hro⟩ : ∃ so eo, repOut r = [Str so, .int .i64 eo] := ⟨_, _, repO_if r⟩
  rw [hro]
  repeat (first | refine SemW.run tblOk ?_ | refine jA (by omega) ?_ | refine jB (by omega) ?_ | refine jC (by omega) ?_ | refine jD (by omega) ?_ | refine jE rfl ?_ | refine jF (by omega) ?_ | (refine jG ?_; first | with_reducible (first | refine jH ?_ | refine jI ?_ | refine jJ ?_ | refine jK ?_ | refine jL ?_) | refine jM (by omega) ?_ | refine jN (by omega) ?_ | with_reducible refine jM rfl ?_ | refine jM (by assumption) ?_ | refine jN (by assumption) ?_ | refine jM (by decide) ?_ | refine jN (by decide) ?_) | refine jF (ptr_ok tblOk rfl rfl) ?_ | refine jO (fun _ => by kernel_rfl) ?_ | refine jF (by decide) ?_ | refine hS.ld rfl ?_ | refine hS.ldn rfl ?_ | (refine hS.st rfl rfl ?_; intro _ hS))
  refine Cl.mono (Reply23_spec (hr.keep hS.nil)) ?_
  rintro _ w5 ⟨rfl, hS'⟩
  have hS := hS.call0 hS'
  rw [hro]
  repeat (first | refine SemW.run tblOk ?_ | refine jA (by omega) ?_ | refine jB (by omega) ?_ | refine jC (by omega) ?_ | refine jD (by omega) ?_ | refine jE rfl ?_ | refine jF (by omega) ?_ | (refine jG ?_; first | with_reducible (first | refine jH ?_ | refine jI ?_ | refine jJ ?_ | refine jK ?_ | refine jL ?_) | refine jM (by omega) ?_ | refine jN (by omega) ?_ | with_reducible refine jM rfl ?_ | refine jM (by assumption) ?_ | refine jN (by assumption) ?_ | refine jM (by decide) ?_ | refine jN (by decide) ?_) | refine jF (ptr_ok tblOk rfl rfl) ?_ | refine jO (fun _ => by kernel_rfl) ?_ | refine jF (by decide) ?_ | refine hS.ld rfl ?_ | refine hS.ldn rfl ?_ | (refine hS.st rfl rfl ?_; intro _ hS))
  refine Cl.mono (ReadReply_spec (t := t) (by omega) (hE.keep hS (by simp) (by simp))) ?_
  intro v w6 hP
  cases hx : readR t with
  | none =>
    rw [hx] at hP
    obtain ⟨rfl, hS'⟩ := hP
    have hS := hS.call0 hS'
    repeat (first | refine SemW.run tblOk ?_ | refine jA (by omega) ?_ | refine jB (by omega) ?_ | refine jC (by omega) ?_ | refine jD (by omega) ?_ | refine jE rfl ?_ | refine jF (by omega) ?_ | (refine jG ?_; first | with_reducible (first | refine jH ?_ | refine jI ?_ | refine jJ ?_ | refine jK ?_ | refine jL ?_) | refine jM (by omega) ?_ | refine jN (by omega) ?_ | with_reducible refine jM rfl ?_ | refine jM (by assumption) ?_ | refine jN (by assumption) ?_ | refine jM (by decide) ?_ | refine jN (by decide) ?_) | refine jF (ptr_ok tblOk rfl rfl) ?_ | refine jO (fun _ => by kernel_rfl) ?_ | refine jF (by decide) ?_ | refine hS.ld rfl ?_ | refine hS.ldn rfl ?_ | (refine hS.st rfl rfl ?_; intro _ hS))
    refine hS.al ?_
    intro b4 w7 _ hS
    repeat (first | refine SemW.run tblOk ?_ | refine jA (by omega) ?_ | refine jB (by omega) ?_ | refine jC (by omega) ?_ | refine jD (by omega) ?_ | refine jE rfl ?_ | refine jF (by omega) ?_ | (refine jG ?_; first | with_reducible (first | refine jH ?_ | refine jI ?_ | refine jJ ?_ | refine jK ?_ | refine jL ?_) | refine jM (by omega) ?_ | refine jN (by omega) ?_ | with_reducible refine jM rfl ?_ | refine jM (by assumption) ?_ | refine jN (by assumption) ?_ | refine jM (by decide) ?_ | refine jN (by decide) ?_) | refine jF (ptr_ok tblOk rfl rfl) ?_ | refine jO (fun _ => by kernel_rfl) ?_ | refine jF (by decide) ?_ | refine hS.ld rfl ?_ | refine hS.ldn rfl ?_ | (refine hS.st rfl rfl ?_; intro _ hS))
    refine Cl.mono (ReadReply23_spec (t := t) (by omega) (hE.keep hS (by simp) (by simp))) ?_
    intro v w8 hP
    rw [hx] at hP
    obtain ⟨rfl, hS'⟩ := hP
    have hS := hS.call0 hS'
    repeat (first | refine SemW.run tblOk ?_ | refine jA (by omega) ?_ | refine jB (by omega) ?_ | refine jC (by omega) ?_ | refine jD (by omega) ?_ | refine jE rfl ?_ | refine jF (by omega) ?_ | (refine jG ?_; first | with_reducible (first | refine jH ?_ | refine jI ?_ | refine jJ ?_ | refine jK ?_ | refine jL ?_) | refine jM (by omega) ?_ | refine jN (by omega) ?_ | with_reducible refine jM rfl ?_ | refine jM (by assumption) ?_ | refine jN (by assumption) ?_ | refine jM (by decide) ?_ | refine jN (by decide) ?_) | refine jF (ptr_ok tblOk rfl rfl) ?_ | refine jO (fun _ => by kernel_rfl) ?_ | refine jF (by decide) ?_ | refine hS.ld rfl ?_ | refine hS.ldn rfl ?_ | (refine hS.st rfl rfl ?_; intro _ hS))
    refine hS.al ?_
    intro b5 w9 _ hS
    repeat (first | refine SemW.run tblOk ?_ | refine jA (by omega) ?_ | refine jB (by omega) ?_ | refine jC (by omega) ?_ | refine jD (by omega) ?_ | refine jE rfl ?_ | refine jF (by omega) ?_ | (refine jG ?_; first | with_reducible (first | refine jH ?_ | refine jI ?_ | refine jJ ?_ | refine jK ?_ | refine jL ?_) | refine jM (by omega) ?_ | refine jN (by omega) ?_ | with_reducible refine jM rfl ?_ | refine jM (by assumption) ?_ | refine jN (by assumption) ?_ | refine jM (by decide) ?_ | refine jN (by decide) ?_) | refine jF (ptr_ok tblOk rfl rfl) ?_ | refine jO (fun _ => by kernel_rfl) ?_ | refine jF (by decide) ?_ | refine hS.ld rfl ?_ | refine hS.ldn rfl ?_ | (refine hS.st rfl rfl ?_; intro _ hS))
    refine Cl.mono (SameReply_spec (x := zRep) (y := zRep) (a := none) (b := none) ⟨Arr.nil _ _ _, Arr.nil _ _ _, Nat.zero_le _⟩) ?_
    rintro _ w10 ⟨rfl, hS'⟩
    have hS := hS.call0 hS'
    rw [decide_eq_true rfl]
    repeat (first | refine SemW.run tblOk ?_ | refine jA (by omega) ?_ | refine jB (by omega) ?_ | refine jC (by omega) ?_ | refine jD (by omega) ?_ | refine jE rfl ?_ | refine jF (by omega) ?_ | (refine jG ?_; first | with_reducible (first | refine jH ?_ | refine jI ?_ | refine jJ ?_ | refine jK ?_ | refine jL ?_) | refine jM (by omega) ?_ | refine jN (by omega) ?_ | with_reducible refine jM rfl ?_ | refine jM (by assumption) ?_ | refine jN (by assumption) ?_ | refine jM (by decide) ?_ | refine jN (by decide) ?_) | refine jF (ptr_ok tblOk rfl rfl) ?_ | refine jO (fun _ => by kernel_rfl) ?_ | refine jF (by decide) ?_ | refine hS.ld rfl ?_ | refine hS.ldn rfl ?_ | (refine hS.st rfl rfl ?_; intro _ hS))
    exact ⟨rfl, hS.nil⟩
  | some y =>
    rw [hx] at hP
    obtain ⟨ax, cx, Lx, rfl, hvx, hS'⟩ := hP
    have hS := hS.callNew hS'
    obtain ⟨-, -, -, hly⟩ := readR_some hx
    have hyl := (replyB_sizes y).1
    repeat (first | refine SemW.run tblOk ?_ | refine jA (by omega) ?_ | refine jB (by omega) ?_ | refine jC (by omega) ?_ | refine jD (by omega) ?_ | refine jE rfl ?_ | refine jF (by omega) ?_ | (refine jG ?_; first | with_reducible (first | refine jH ?_ | refine jI ?_ | refine jJ ?_ | refine jK ?_ | refine jL ?_) | refine jM (by omega) ?_ | refine jN (by omega) ?_ | with_reducible refine jM rfl ?_ | refine jM (by assumption) ?_ | refine jN (by assumption) ?_ | refine jM (by decide) ?_ | refine jN (by decide) ?_) | refine jF (ptr_ok tblOk rfl rfl) ?_ | refine jO (fun _ => by kernel_rfl) ?_ | refine jF (by decide) ?_ | refine hS.ld rfl ?_ | refine hS.ldn rfl ?_ | (refine hS.st rfl rfl ?_; intro _ hS))
    refine hS.al ?_
    intro b4 w7 _ hS
    repeat (first | refine SemW.run tblOk ?_ | refine jA (by omega) ?_ | refine jB (by omega) ?_ | refine jC (by omega) ?_ | refine jD (by omega) ?_ | refine jE rfl ?_ | refine jF (by omega) ?_ | (refine jG ?_; first | with_reducible (first | refine jH ?_ | refine jI ?_ | refine jJ ?_ | refine jK ?_ | refine jL ?_) | refine jM (by omega) ?_ | refine jN (by omega) ?_ | with_reducible refine jM rfl ?_ | refine jM (by assumption) ?_ | refine jN (by assumption) ?_ | refine jM (by decide) ?_ | refine jN (by decide) ?_) | refine jF (ptr_ok tblOk rfl rfl) ?_ | refine jO (fun _ => by kernel_rfl) ?_ | refine jF (by decide) ?_ | refine hS.ld rfl ?_ | refine hS.ldn rfl ?_ | (refine hS.st rfl rfl ?_; intro _ hS))
    refine Cl.mono (ReadReply23_spec (t := t) (by omega) (hE.keep hS (by simp) (by simp))) ?_
    intro v w8 hP
    rw [hx] at hP
    obtain ⟨ay, cy, Ly, rfl, hvy, hS'⟩ := hP
    have hS := hS.callNew hS'
    repeat (first | refine SemW.run tblOk ?_ | refine jA (by omega) ?_ | refine jB (by omega) ?_ | refine jC (by omega) ?_ | refine jD (by omega) ?_ | refine jE rfl ?_ | refine jF (by omega) ?_ | (refine jG ?_; first | with_reducible (first | refine jH ?_ | refine jI ?_ | refine jJ ?_ | refine jK ?_ | refine jL ?_) | refine jM (by omega) ?_ | refine jN (by omega) ?_ | with_reducible refine jM rfl ?_ | refine jM (by assumption) ?_ | refine jN (by assumption) ?_ | refine jM (by decide) ?_ | refine jN (by decide) ?_) | refine jF (ptr_ok tblOk rfl rfl) ?_ | refine jO (fun _ => by kernel_rfl) ?_ | refine jF (by decide) ?_ | refine hS.ld rfl ?_ | refine hS.ldn rfl ?_ | (refine hS.st rfl rfl ?_; intro _ hS))
    refine hS.al ?_
    intro b5 w9 _ hS
    repeat (first | refine SemW.run tblOk ?_ | refine jA (by omega) ?_ | refine jB (by omega) ?_ | refine jC (by omega) ?_ | refine jD (by omega) ?_ | refine jE rfl ?_ | refine jF (by omega) ?_ | (refine jG ?_; first | with_reducible (first | refine jH ?_ | refine jI ?_ | refine jJ ?_ | refine jK ?_ | refine jL ?_) | refine jM (by omega) ?_ | refine jN (by omega) ?_ | with_reducible refine jM rfl ?_ | refine jM (by assumption) ?_ | refine jN (by assumption) ?_ | refine jM (by decide) ?_ | refine jN (by decide) ?_) | refine jF (ptr_ok tblOk rfl rfl) ?_ | refine jO (fun _ => by kernel_rfl) ?_ | refine jF (by decide) ?_ | refine hS.ld rfl ?_ | refine hS.ldn rfl ?_ | (refine hS.st rfl rfl ?_; intro _ hS))
    refine Cl.mono (SameReply_spec (x := y) (y := y) ⟨hvx.arr (L := Lx) hS (by simp), hvy.arr (L := Ly) hS (by simp), by omega⟩) ?_
    rintro _ w10 ⟨rfl, hS'⟩
    have hS := hS.call0 hS'
    rw [decide_eq_true rfl]
    repeat (first | refine SemW.run tblOk ?_ | refine jA (by omega) ?_ | refine jB (by omega) ?_ | refine jC (by omega) ?_ | refine jD (by omega) ?_ | refine jE rfl ?_ | refine jF (by omega) ?_ | (refine jG ?_; first | with_reducible (first | refine jH ?_ | refine jI ?_ | refine jJ ?_ | refine jK ?_ | refine jL ?_) | refine jM (by omega) ?_ | refine jN (by omega) ?_ | with_reducible refine jM rfl ?_ | refine jM (by assumption) ?_ | refine jN (by assumption) ?_ | refine jM (by decide) ?_ | refine jN (by decide) ?_) | refine jF (ptr_ok tblOk rfl rfl) ?_ | refine jO (fun _ => by kernel_rfl) ?_ | refine jF (by decide) ?_ | refine hS.ld rfl ?_ | refine hS.ldn rfl ?_ | (refine hS.st rfl rfl ?_; intro _ hS))
    exact ⟨rfl, hS.nil⟩
end Go.Proofs.YthpmmfapolcaiaaGreatDoor
