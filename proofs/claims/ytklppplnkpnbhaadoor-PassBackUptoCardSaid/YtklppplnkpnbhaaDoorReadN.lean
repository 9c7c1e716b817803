/- Package pack: the reader. -/
import Derived.Test.YtklppplnkpnbhaaDoorReadL
import Derived.Test.YtklppplnkpnbhaaDoorTbl
import Derived.Test.YtklppplnkpnbhaaDoorConv
import Derived.Test.YtklppplnkpnbhaaDoorPackN
namespace Go.Proofs.YtklppplnkpnbhaaDoor
open Go Go.Eng Go.Proofs

abbrev rdC (t : Bytes) : Obj := .cells ⟨[Str t]⟩ T_pack_Reader (0, 0)
/-- What a read of a number answers, and what is left. -/
def numO (t : Bytes) : Nat × Int × Bytes := match numR t with
  | some (m, r) => (m, 0, r)
  | none => (0, 1, t)
theorem low7 (n c k : Nat) (hn : n < 2 ^ (7 * k)) (hc : c < 256) (hk : k ≤ 9) (h9 : k = 9 → c ≤ 1) :
    orI .u64 (n : Int) (IntKind.u64.wrap (andI .u8 (c : Int) 127 * 2 ^ (7 * k))) = ((n + c % 128 * 2 ^ (7 * k) : Nat) : Int) ∧ n + c % 128 * 2 ^ (7 * k) < 18446744073709551616 := by
  have e1 : andI .u8 (c : Int) 127 = ((c % 128 : Nat) : Int) := by
    have h := andU .u8 rfl c 127 hc (by decide)
    rw [show ((127 : Nat) : Int) = 127 from rfl] at h
    rw [h, show (127 : Nat) = 2 ^ 7 - 1 by rfl, Nat.and_two_pow_sub_one_eq_mod]
  have hb : n + c % 128 * 2 ^ (7 * k) < 18446744073709551616 := by
    have hm : c % 128 < 128 := Nat.mod_lt _ (by omega)
    by_cases h : k = 9
    · subst h
      have := h9 rfl
      have h1 : c % 128 ≤ 1 := by omega
      have h2 : c % 128 * 2 ^ (7 * 9) ≤ 1 * 2 ^ (7 * 9) := Nat.mul_le_mul_right _ h1
      omega
    · have h3 : 2 ^ (7 * k) ≤ 2 ^ (7 * 8) := Nat.pow_le_pow_right (by omega) (by omega)
      have h4 : c % 128 * 2 ^ (7 * k) ≤ 127 * 2 ^ (7 * k) := Nat.mul_le_mul_right _ (by omega)
      omega
  refine ⟨?_, hb⟩
  have e2 : ((c % 128 : Nat) : Int) * 2 ^ (7 * k) = ((c % 128 * 2 ^ (7 * k) : Nat) : Int) := by simp
  have e3 : c % 128 * 2 ^ (7 * k) % 2 ^ IntKind.u64.bits = c % 128 * 2 ^ (7 * k) := Nat.mod_eq_of_lt (show c % 128 * 2 ^ (7 * k) < 18446744073709551616 by omega)
  rw [e1, e2, wrapU .u64 rfl, e3, orU .u64 rfl _ _ (show n < 18446744073709551616 by omega) (show _ < 18446744073709551616 by omega), Nat.or_comm, or_add _ _ _ hn, Nat.add_comm]
def numJ (t : Bytes) (k n : Nat) : Prop := k ≤ 10 ∧ k ≤ t.length ∧ n < 2 ^ (7 * k) ∧ numS 0 t = match numS k (t.drop k) with
  | some (m, r) => some (n + m * 2 ^ (7 * k), r)
  | none => none
theorem numJ_fail {t : Bytes} {k n : Nat} (h : numJ t k n) (hf : numS k (t.drop k) = none) : numO t = (0, 1, t) := by
  unfold numO numR
  rw [h.2.2.2, hf]
theorem numS_stop {t : Bytes} {k : Nat} (hk : ¬ (k < 10 ∧ k < t.length)) : numS k (t.drop k) = none := by
  cases h : t.drop k with
  | nil => rfl
  | cons c u =>
    have : k < t.length := by
      have := congrArg List.length h
      simp at this; omega
    unfold numS
    rw [if_pos (by omega)]
theorem numS_at {t : Bytes} {k : Nat} (hk : k < t.length) : numS k (t.drop k) = if 9 < k ∨ (k = 9 ∧ 1 < t[k].toNat) ∨ (0 < k ∧ t[k].toNat = 0) then none
    else if t[k].toNat < 128 then some (t[k].toNat, t.drop (k + 1))
    else match numS (k + 1) (t.drop (k + 1)) with
      | some (m, r) => some (t[k].toNat % 128 + 128 * m, r)
      | none => none := by
  rw [List.drop_eq_getElem_cons hk, numS]
  rfl
theorem numJ_done {t : Bytes} {k n : Nat} (h : numJ t k n) (hk : k < t.length) (h1 : ¬ (9 < k ∨ (k = 9 ∧ 1 < t[k].toNat) ∨ (0 < k ∧ t[k].toNat = 0))) (h2 : t[k].toNat < 128) :
    numO t = (n + t[k].toNat % 128 * 2 ^ (7 * k), 0, t.drop (k + 1)) := by
  unfold numO numR
  rw [h.2.2.2, numS_at hk, if_neg h1, if_pos h2, Nat.mod_eq_of_lt h2]
theorem numJ_next {t : Bytes} {k n : Nat} (h : numJ t k n) (hk : k < t.length) (h1 : ¬ (9 < k ∨ (k = 9 ∧ 1 < t[k].toNat) ∨ (0 < k ∧ t[k].toNat = 0))) (h2 : ¬ t[k].toNat < 128) :
    numJ t (k + 1) (n + t[k].toNat % 128 * 2 ^ (7 * k)) := by
  obtain ⟨h3, h4, h5, h6⟩ := h
  refine ⟨by omega, by omega, ?_, ?_⟩
  · rw [show 7 * (k + 1) = 7 * k + 7 by omega, Nat.pow_add]
    have h4 : t[k].toNat % 128 * 2 ^ (7 * k) ≤ 127 * 2 ^ (7 * k) := Nat.mul_le_mul_right _ (by omega)
    generalize 2 ^ (7 * k) = P at *
    omega
  · rw [h6, numS_at hk, if_neg h1, if_neg h2]
    cases numS (k + 1) (t.drop (k + 1)) with
    | none => rfl
    | some x =>
      obtain ⟨m, r⟩ := x
      simp only [Option.some.injEq, Prod.mk.injEq, and_true]
      rw [show 7 * (k + 1) = 7 * k + 7 by omega, Nat.pow_add, Nat.add_mul, Nat.add_assoc]
      congr 2
      rw [show 2 ^ (7 * k) * 2 ^ 7 = 128 * 2 ^ (7 * k) by omega, Nat.mul_comm 128 m, Nat.mul_assoc]
theorem low7' (n c k : Nat) (hn : n < 2 ^ (7 * k)) (hc : c < 256) (hk : k ≤ 9) (h9 : k = 9 → c ≤ 1) :
    orI .u64 (n : Int) (IntKind.u64.wrap (IntKind.u64.wrap (andI .u8 (c : Int) 127) * 2 ^ min (7 * (k : Int)).toNat IntKind.u64.bits)) = ((n + c % 128 * 2 ^ (7 * k) : Nat) : Int) := by
  have h := (low7 n c k hn hc hk h9).1
  have e1 : andI .u8 (c : Int) 127 = ((c % 128 : Nat) : Int) := by
    have h := andU .u8 rfl c 127 hc (by decide)
    rw [show ((127 : Nat) : Int) = 127 from rfl] at h
    rw [h, show (127 : Nat) = 2 ^ 7 - 1 by rfl, Nat.and_two_pow_sub_one_eq_mod]
  have e2 : IntKind.u64.wrap (((c % 128 : Nat) : Nat) : Int) = ((c % 128 : Nat) : Int) := by
    rw [wrapU .u64 rfl]; congr 1; exact Nat.mod_eq_of_lt (by show _ < 18446744073709551616; omega)
  have e3 : min (7 * (k : Int)).toNat IntKind.u64.bits = 7 * k := by show min _ 64 = _; omega
  rw [e1] at h ⊢
  rw [e2, e3]; exact h
set_option maxHeartbeats 4000000 in
theorem RNum_spec {w : World} {b : Nat} {t : Bytes} (hh : Holds [(b, rdC t)] w) (ht : t.length ≤ 70368744177664) :
    Cl Tryd.prog f_pack_Reader_Num [ptr b] w fun v w' => v = .tuple ⟨[.int .u64 (numO t).1, .int .i64 (numO t).2.1]⟩ ∧ St w [b] [(b, rdC (numO t).2.2)] w' := by
  have hS : St w [b] [(b, rdC t)] w := St.enter hh
  refine en_pack_Reader_Num rfl ?_
  repeat (first | refine SemW.run tblOk ?_ | refine IntG.nw (by omega) ?_ | refine IntG.nu8 (by omega) ?_ | refine IntG.nu32 (by omega) ?_ | refine IntG.nu64 (by omega) ?_ | refine IntG.wr' rfl ?_ | refine Chk.mk (by omega) ?_ | (refine BrG.id ?_; first | with_reducible refine BrG.t ?_ | with_reducible refine BrG.f ?_ | with_reducible refine BrG.notG ?_ | with_reducible refine BrG.nn ?_ | with_reducible refine BrG.ns ?_ | refine BrG.pos (by omega) ?_ | refine BrG.neg (by omega) ?_ | with_reducible refine BrG.pos rfl ?_ | refine BrG.pos (by assumption) ?_ | refine BrG.neg (by assumption) ?_ | refine BrG.pos (by decide) ?_ | refine BrG.neg (by decide) ?_) | refine Chk.mk (ptr_ok tblOk rfl rfl) ?_ | refine Chk.mk (by decide) ?_)
  refine SemW.loop (fun x : Nat × Nat => [(0, ptr b), (4, .int .u64 x.2), (5, .int .i64 x.1)])
    (fun x w' => numJ t x.1 x.2 ∧ St w [b] [(b, rdC t)] w') (fun x => 10 - x.1) (0, 0)
    ⟨rfl, rfl, rfl, trivial⟩ ⟨⟨by omega, by omega, by simp, by simp only [List.drop_zero]; cases numS 0 t <;> simp⟩, hS⟩ ?_
  rintro ⟨k, n⟩ w1 ⟨hJ, hS⟩
  simp only at hJ hS ⊢
  have hkk := hJ.1
  have hkl := hJ.2.1
  by_cases hk : k < 10 ∧ k < t.length
  · obtain ⟨hk10, hkt⟩ := hk
    have hmin : ((k : Int) < min 10 (t.length : Int)) := by omega
    repeat (first | refine SemW.run tblOk ?_ | refine IntG.nw (by omega) ?_ | refine IntG.nu8 (by omega) ?_ | refine IntG.nu32 (by omega) ?_ | refine IntG.nu64 (by omega) ?_ | refine IntG.wr' rfl ?_ | refine Chk.mk (by omega) ?_ | (refine BrG.id ?_; first | with_reducible refine BrG.t ?_ | with_reducible refine BrG.f ?_ | with_reducible refine BrG.notG ?_ | with_reducible refine BrG.nn ?_ | with_reducible refine BrG.ns ?_ | refine BrG.pos (by omega) ?_ | refine BrG.neg (by omega) ?_ | with_reducible refine BrG.pos rfl ?_ | refine BrG.pos (by assumption) ?_ | refine BrG.neg (by assumption) ?_ | refine BrG.pos (by decide) ?_ | refine BrG.neg (by decide) ?_) | refine Chk.mk (ptr_ok tblOk rfl rfl) ?_ | refine Chk.mk (by decide) ?_ | refine hS.ld rfl ?_ | refine hS.ldn rfl ?_ | (refine hS.st rfl rfl ?_; intro _ hS))
    obtain ⟨c, hc⟩ : ∃ c, c = t.getD ((k : Int)).toNat 0 := ⟨_, rfl⟩
    have hct : c = t[k] := by rw [hc]; simp [hkt]
    rw [← hc]
    have hclt := c.toNat_lt
    by_cases h9 : k = 9
    · by_cases h1 : 1 < c.toNat
      · repeat (first | refine SemW.run tblOk ?_ | refine IntG.nw (by omega) ?_ | refine IntG.nu8 (by omega) ?_ | refine IntG.nu32 (by omega) ?_ | refine IntG.nu64 (by omega) ?_ | refine IntG.wr' rfl ?_ | refine Chk.mk (by omega) ?_ | (refine BrG.id ?_; first | with_reducible refine BrG.t ?_ | with_reducible refine BrG.f ?_ | with_reducible refine BrG.notG ?_ | with_reducible refine BrG.nn ?_ | with_reducible refine BrG.ns ?_ | refine BrG.pos (by omega) ?_ | refine BrG.neg (by omega) ?_ | with_reducible refine BrG.pos rfl ?_ | refine BrG.pos (by assumption) ?_ | refine BrG.neg (by assumption) ?_ | refine BrG.pos (by decide) ?_ | refine BrG.neg (by decide) ?_) | refine Chk.mk (ptr_ok tblOk rfl rfl) ?_ | refine Chk.mk (by decide) ?_ | refine hS.ld rfl ?_ | refine hS.ldn rfl ?_ | (refine hS.st rfl rfl ?_; intro _ hS))
        rw [numJ_fail hJ (by rw [numS_at hkt, if_pos (by rw [← hct]; omega)])]
        exact ⟨rfl, hS⟩
      · by_cases hz : c.toNat = 0
        · repeat (first | refine SemW.run tblOk ?_ | refine IntG.nw (by omega) ?_ | refine IntG.nu8 (by omega) ?_ | refine IntG.nu32 (by omega) ?_ | refine IntG.nu64 (by omega) ?_ | refine IntG.wr' rfl ?_ | refine Chk.mk (by omega) ?_ | (refine BrG.id ?_; first | with_reducible refine BrG.t ?_ | with_reducible refine BrG.f ?_ | with_reducible refine BrG.notG ?_ | with_reducible refine BrG.nn ?_ | with_reducible refine BrG.ns ?_ | refine BrG.pos (by omega) ?_ | refine BrG.neg (by omega) ?_ | with_reducible refine BrG.pos rfl ?_ | refine BrG.pos (by assumption) ?_ | refine BrG.neg (by assumption) ?_ | refine BrG.pos (by decide) ?_ | refine BrG.neg (by decide) ?_) | refine Chk.mk (ptr_ok tblOk rfl rfl) ?_ | refine Chk.mk (by decide) ?_ | refine hS.ld rfl ?_ | refine hS.ldn rfl ?_ | (refine hS.st rfl rfl ?_; intro _ hS))
          rw [numJ_fail hJ (by rw [numS_at hkt, if_pos (by rw [← hct]; omega)])]
          exact ⟨rfl, hS⟩
        · have hl7 := low7' n c.toNat k hJ.2.2.1 c.toNat_lt (by omega) (by omega)
          have hnb : ¬ (9 < k ∨ (k = 9 ∧ 1 < t[k].toNat) ∨ (0 < k ∧ t[k].toNat = 0)) := by rw [← hct]; omega
          have ek : ((k : Int) + 1).toNat = k + 1 := by omega
          by_cases h128 : c.toNat < 128
          · have hdn := numJ_done hJ hkt hnb (by rw [← hct]; exact h128)
            rw [← hct] at hdn
            repeat (first | refine SemW.run tblOk ?_ | refine IntG.nw (by omega) ?_ | refine IntG.nu8 (by omega) ?_ | refine IntG.nu32 (by omega) ?_ | refine IntG.nu64 (by omega) ?_ | refine IntG.wr' rfl ?_ | refine Chk.mk (by omega) ?_ | (refine BrG.id ?_; first | with_reducible refine BrG.t ?_ | with_reducible refine BrG.f ?_ | with_reducible refine BrG.notG ?_ | with_reducible refine BrG.nn ?_ | with_reducible refine BrG.ns ?_ | refine BrG.pos (by omega) ?_ | refine BrG.neg (by omega) ?_ | with_reducible refine BrG.pos rfl ?_ | refine BrG.pos (by assumption) ?_ | refine BrG.neg (by assumption) ?_ | refine BrG.pos (by decide) ?_ | refine BrG.neg (by decide) ?_) | refine Chk.mk (ptr_ok tblOk rfl rfl) ?_ | refine Chk.mk (by decide) ?_ | refine hS.ld rfl ?_ | refine hS.ldn rfl ?_ | (refine hS.st rfl rfl ?_; intro _ hS))
            rw [hdn]
            rw [ek] at hS
            exact ⟨congrArg (fun z => Value.tuple ⟨[.int .u64 z, .int .i64 0]⟩) hl7, hS⟩
          · have hnx := numJ_next hJ hkt hnb (by rw [← hct]; exact h128)
            rw [← hct] at hnx
            first
            | (exfalso; omega)
            | (repeat (first | refine SemW.run tblOk ?_ | refine IntG.nw (by omega) ?_ | refine IntG.nu8 (by omega) ?_ | refine IntG.nu32 (by omega) ?_ | refine IntG.nu64 (by omega) ?_ | refine IntG.wr' rfl ?_ | refine Chk.mk (by omega) ?_ | (refine BrG.id ?_; first | with_reducible refine BrG.t ?_ | with_reducible refine BrG.f ?_ | with_reducible refine BrG.notG ?_ | with_reducible refine BrG.nn ?_ | with_reducible refine BrG.ns ?_ | refine BrG.pos (by omega) ?_ | refine BrG.neg (by omega) ?_ | with_reducible refine BrG.pos rfl ?_ | refine BrG.pos (by assumption) ?_ | refine BrG.neg (by assumption) ?_ | refine BrG.pos (by decide) ?_ | refine BrG.neg (by decide) ?_) | refine Chk.mk (ptr_ok tblOk rfl rfl) ?_ | refine Chk.mk (by decide) ?_ | refine hS.ld rfl ?_ | refine hS.ldn rfl ?_ | (refine hS.st rfl rfl ?_; intro _ hS))
               exact ⟨(k + 1, n + c.toNat % 128 * 2 ^ (7 * k)), ⟨rfl, congrArg (Value.int .u64) hl7, rfl, trivial⟩, ⟨hnx, hS⟩, by simp only; omega⟩)
    · by_cases h0 : 0 < k
      · by_cases hz : c.toNat = 0
        · repeat (first | refine SemW.run tblOk ?_ | refine IntG.nw (by omega) ?_ | refine IntG.nu8 (by omega) ?_ | refine IntG.nu32 (by omega) ?_ | refine IntG.nu64 (by omega) ?_ | refine IntG.wr' rfl ?_ | refine Chk.mk (by omega) ?_ | (refine BrG.id ?_; first | with_reducible refine BrG.t ?_ | with_reducible refine BrG.f ?_ | with_reducible refine BrG.notG ?_ | with_reducible refine BrG.nn ?_ | with_reducible refine BrG.ns ?_ | refine BrG.pos (by omega) ?_ | refine BrG.neg (by omega) ?_ | with_reducible refine BrG.pos rfl ?_ | refine BrG.pos (by assumption) ?_ | refine BrG.neg (by assumption) ?_ | refine BrG.pos (by decide) ?_ | refine BrG.neg (by decide) ?_) | refine Chk.mk (ptr_ok tblOk rfl rfl) ?_ | refine Chk.mk (by decide) ?_ | refine hS.ld rfl ?_ | refine hS.ldn rfl ?_ | (refine hS.st rfl rfl ?_; intro _ hS))
          rw [numJ_fail hJ (by rw [numS_at hkt, if_pos (by rw [← hct]; omega)])]
          exact ⟨rfl, hS⟩
        · have hl7 := low7' n c.toNat k hJ.2.2.1 c.toNat_lt (by omega) (by omega)
          have hnb : ¬ (9 < k ∨ (k = 9 ∧ 1 < t[k].toNat) ∨ (0 < k ∧ t[k].toNat = 0)) := by rw [← hct]; omega
          have ek : ((k : Int) + 1).toNat = k + 1 := by omega
          by_cases h128 : c.toNat < 128
          · have hdn := numJ_done hJ hkt hnb (by rw [← hct]; exact h128)
            rw [← hct] at hdn
            repeat (first | refine SemW.run tblOk ?_ | refine IntG.nw (by omega) ?_ | refine IntG.nu8 (by omega) ?_ | refine IntG.nu32 (by omega) ?_ | refine IntG.nu64 (by omega) ?_ | refine IntG.wr' rfl ?_ | refine Chk.mk (by omega) ?_ | (refine BrG.id ?_; first | with_reducible refine BrG.t ?_ | with_reducible refine BrG.f ?_ | with_reducible refine BrG.notG ?_ | with_reducible refine BrG.nn ?_ | with_reducible refine BrG.ns ?_ | refine BrG.pos (by omega) ?_ | refine BrG.neg (by omega) ?_ | with_reducible refine BrG.pos rfl ?_ | refine BrG.pos (by assumption) ?_ | refine BrG.neg (by assumption) ?_ | refine BrG.pos (by decide) ?_ | refine BrG.neg (by decide) ?_) | refine Chk.mk (ptr_ok tblOk rfl rfl) ?_ | refine Chk.mk (by decide) ?_ | refine hS.ld rfl ?_ | refine hS.ldn rfl ?_ | (refine hS.st rfl rfl ?_; intro _ hS))
            rw [hdn]
            rw [ek] at hS
            exact ⟨congrArg (fun z => Value.tuple ⟨[.int .u64 z, .int .i64 0]⟩) hl7, hS⟩
          · have hnx := numJ_next hJ hkt hnb (by rw [← hct]; exact h128)
            rw [← hct] at hnx
            first
            | (exfalso; omega)
            | (repeat (first | refine SemW.run tblOk ?_ | refine IntG.nw (by omega) ?_ | refine IntG.nu8 (by omega) ?_ | refine IntG.nu32 (by omega) ?_ | refine IntG.nu64 (by omega) ?_ | refine IntG.wr' rfl ?_ | refine Chk.mk (by omega) ?_ | (refine BrG.id ?_; first | with_reducible refine BrG.t ?_ | with_reducible refine BrG.f ?_ | with_reducible refine BrG.notG ?_ | with_reducible refine BrG.nn ?_ | with_reducible refine BrG.ns ?_ | refine BrG.pos (by omega) ?_ | refine BrG.neg (by omega) ?_ | with_reducible refine BrG.pos rfl ?_ | refine BrG.pos (by assumption) ?_ | refine BrG.neg (by assumption) ?_ | refine BrG.pos (by decide) ?_ | refine BrG.neg (by decide) ?_) | refine Chk.mk (ptr_ok tblOk rfl rfl) ?_ | refine Chk.mk (by decide) ?_ | refine hS.ld rfl ?_ | refine hS.ldn rfl ?_ | (refine hS.st rfl rfl ?_; intro _ hS))
               exact ⟨(k + 1, n + c.toNat % 128 * 2 ^ (7 * k)), ⟨rfl, congrArg (Value.int .u64) hl7, rfl, trivial⟩, ⟨hnx, hS⟩, by simp only; omega⟩)
      · have hl7 := low7' n c.toNat k hJ.2.2.1 c.toNat_lt (by omega) (by omega)
        have hnb : ¬ (9 < k ∨ (k = 9 ∧ 1 < t[k].toNat) ∨ (0 < k ∧ t[k].toNat = 0)) := by rw [← hct]; omega
        have ek : ((k : Int) + 1).toNat = k + 1 := by omega
        by_cases h128 : c.toNat < 128
        · have hdn := numJ_done hJ hkt hnb (by rw [← hct]; exact h128)
          rw [← hct] at hdn
          repeat (first | refine SemW.run tblOk ?_ | refine IntG.nw (by omega) ?_ | refine IntG.nu8 (by omega) ?_ | refine IntG.nu32 (by omega) ?_ | refine IntG.nu64 (by omega) ?_ | refine IntG.wr' rfl ?_ | refine Chk.mk (by omega) ?_ | (refine BrG.id ?_; first | with_reducible refine BrG.t ?_ | with_reducible refine BrG.f ?_ | with_reducible refine BrG.notG ?_ | with_reducible refine BrG.nn ?_ | with_reducible refine BrG.ns ?_ | refine BrG.pos (by omega) ?_ | refine BrG.neg (by omega) ?_ | with_reducible refine BrG.pos rfl ?_ | refine BrG.pos (by assumption) ?_ | refine BrG.neg (by assumption) ?_ | refine BrG.pos (by decide) ?_ | refine BrG.neg (by decide) ?_) | refine Chk.mk (ptr_ok tblOk rfl rfl) ?_ | refine Chk.mk (by decide) ?_ | refine hS.ld rfl ?_ | refine hS.ldn rfl ?_ | (refine hS.st rfl rfl ?_; intro _ hS))
          rw [hdn]
          rw [ek] at hS
          exact ⟨congrArg (fun z => Value.tuple ⟨[.int .u64 z, .int .i64 0]⟩) hl7, hS⟩
        · have hnx := numJ_next hJ hkt hnb (by rw [← hct]; exact h128)
          rw [← hct] at hnx
          first
          | (exfalso; omega)
          | (repeat (first | refine SemW.run tblOk ?_ | refine IntG.nw (by omega) ?_ | refine IntG.nu8 (by omega) ?_ | refine IntG.nu32 (by omega) ?_ | refine IntG.nu64 (by omega) ?_ | refine IntG.wr' rfl ?_ | refine Chk.mk (by omega) ?_ | (refine BrG.id ?_; first | with_reducible refine BrG.t ?_ | with_reducible refine BrG.f ?_ | with_reducible refine BrG.notG ?_ | with_reducible refine BrG.nn ?_ | with_reducible refine BrG.ns ?_ | refine BrG.pos (by omega) ?_ | refine BrG.neg (by omega) ?_ | with_reducible refine BrG.pos rfl ?_ | refine BrG.pos (by assumption) ?_ | refine BrG.neg (by assumption) ?_ | refine BrG.pos (by decide) ?_ | refine BrG.neg (by decide) ?_) | refine Chk.mk (ptr_ok tblOk rfl rfl) ?_ | refine Chk.mk (by decide) ?_ | refine hS.ld rfl ?_ | refine hS.ldn rfl ?_ | (refine hS.st rfl rfl ?_; intro _ hS))
             exact ⟨(k + 1, n + c.toNat % 128 * 2 ^ (7 * k)), ⟨rfl, congrArg (Value.int .u64) hl7, rfl, trivial⟩, ⟨hnx, hS⟩, by simp only; omega⟩)
  · have hmin : ¬ ((k : Int) < min 10 (t.length : Int)) := by omega
    repeat (first | refine SemW.run tblOk ?_ | refine IntG.nw (by omega) ?_ | refine IntG.nu8 (by omega) ?_ | refine IntG.nu32 (by omega) ?_ | refine IntG.nu64 (by omega) ?_ | refine IntG.wr' rfl ?_ | refine Chk.mk (by omega) ?_ | (refine BrG.id ?_; first | with_reducible refine BrG.t ?_ | with_reducible refine BrG.f ?_ | with_reducible refine BrG.notG ?_ | with_reducible refine BrG.nn ?_ | with_reducible refine BrG.ns ?_ | refine BrG.pos (by omega) ?_ | refine BrG.neg (by omega) ?_ | with_reducible refine BrG.pos rfl ?_ | refine BrG.pos (by assumption) ?_ | refine BrG.neg (by assumption) ?_ | refine BrG.pos (by decide) ?_ | refine BrG.neg (by decide) ?_) | refine Chk.mk (ptr_ok tblOk rfl rfl) ?_ | refine Chk.mk (by decide) ?_ | refine hS.ld rfl ?_ | refine hS.ldn rfl ?_ | (refine hS.st rfl rfl ?_; intro _ hS))
    rw [numJ_fail hJ (numS_stop hk)]
    exact ⟨rfl, hS⟩
def intO (t : Bytes) : Int × Int × Bytes := (unzig (numO t).1, (numO t).2)
theorem numO_lt (t : Bytes) : (numO t).1 < 18446744073709551616 := by
  unfold numO
  cases h : numR t with
  | none => show 0 < 18446744073709551616; omega
  | some x => obtain ⟨m, r⟩ := x; exact ((numR_iff t m r).1 h).2
theorem numO_len (t : Bytes) : (numO t).2.2.length ≤ t.length := by
  unfold numO
  cases h : numR t with
  | none => exact Nat.le_refl _
  | some x =>
    obtain ⟨m, r⟩ := x
    have := congrArg List.length ((numR_iff t m r).1 h).1
    simp only [List.length_append] at this
    show r.length ≤ t.length
    omega
theorem unz_eq (u : Nat) (h : u < 18446744073709551616) : xorI .i64 ((u / 2 : Nat) : Int) (0 - ((u % 2 : Nat) : Int)) = unzig u := by
  show IntKind.i64.wrap (((BitVec.ofInt 64 ((u / 2 : Nat) : Int) ^^^ BitVec.ofInt 64 (0 - ((u % 2 : Nat) : Int))).toNat : Nat) : Int) = _
  have e1 : BitVec.ofInt 64 ((u / 2 : Nat) : Int) = BitVec.ofNat 64 (u / 2) := BitVec.ofInt_natCast ..
  unfold unzig
  by_cases h2 : u % 2 = 0
  · rw [if_pos h2, h2]
    have e2 : BitVec.ofInt 64 (0 - ((0 : Nat) : Int)) = 0#64 := by decide
    rw [e1, e2, BitVec.xor_zero, BitVec.toNat_ofNat, Nat.mod_eq_of_lt (by omega)]
    unfold IntKind.wrap; simp only [IntKind.signed, IntKind.bits]; simp; omega
  · rw [if_neg h2, show u % 2 = 1 by omega]
    have e2 : BitVec.ofInt 64 (0 - ((1 : Nat) : Int)) = BitVec.allOnes 64 := by decide
    rw [e1, e2, BitVec.xor_allOnes, BitVec.toNat_not, BitVec.toNat_ofNat, Nat.mod_eq_of_lt (by omega)]
    unfold IntKind.wrap; simp only [IntKind.signed, IntKind.bits]; simp; omega
set_option maxHeartbeats 1000000 in
theorem RInt_spec {w : World} {b : Nat} {t : Bytes} (hh : Holds [(b, rdC t)] w) (ht : t.length ≤ 70368744177664) :
    Cl Tryd.prog f_pack_Reader_Int [ptr b] w fun v w' => v = .tuple ⟨[.int .i64 (intO t).1, .int .i64 (intO t).2.1]⟩ ∧ St w [b] [(b, rdC (intO t).2.2)] w' := by
  refine en_pack_Reader_Int rfl ?_
  repeat (first | refine SemW.run tblOk ?_ | refine IntG.nw (by omega) ?_ | refine IntG.nu8 (by omega) ?_ | refine IntG.nu32 (by omega) ?_ | refine IntG.nu64 (by omega) ?_ | refine IntG.wr' rfl ?_ | refine Chk.mk (by omega) ?_ | (refine BrG.id ?_; first | with_reducible refine BrG.t ?_ | with_reducible refine BrG.f ?_ | with_reducible refine BrG.notG ?_ | with_reducible refine BrG.nn ?_ | with_reducible refine BrG.ns ?_ | refine BrG.pos (by omega) ?_ | refine BrG.neg (by omega) ?_ | with_reducible refine BrG.pos rfl ?_ | refine BrG.pos (by assumption) ?_ | refine BrG.neg (by assumption) ?_ | refine BrG.pos (by decide) ?_ | refine BrG.neg (by decide) ?_) | refine Chk.mk (ptr_ok tblOk rfl rfl) ?_ | refine Chk.mk (by decide) ?_)
  refine Cl.mono (RNum_spec hh ht) ?_
  rintro _ w1 ⟨rfl, hS⟩
  unfold intO
  have hlt := numO_lt t
  generalize numO t = x at hS hlt ⊢
  obtain ⟨u, e, r⟩ := x
  simp only at hS hlt ⊢
  have e1 : (u : Int).fdiv (2 ^ min (Int.toNat 1) IntKind.u64.bits) = ((u / 2 : Nat) : Int) := by
    show (u : Int).fdiv (2 ^ 1) = _
    rw [fdivP]
  have e2 : andI .u64 (u : Int) 1 = ((u % 2 : Nat) : Int) := by
    have h := andU .u64 rfl u 1 hlt (by decide)
    rw [show ((1 : Nat) : Int) = 1 from rfl] at h
    rw [h, show (1 : Nat) = 2 ^ 1 - 1 by rfl, Nat.and_two_pow_sub_one_eq_mod]
  have hz := unz_eq u hlt
  repeat (first | refine SemW.run tblOk ?_ | refine IntG.nw (by omega) ?_ | refine IntG.nu8 (by omega) ?_ | refine IntG.nu32 (by omega) ?_ | refine IntG.nu64 (by omega) ?_ | refine IntG.wr' rfl ?_ | refine Chk.mk (by omega) ?_ | (refine BrG.id ?_; first | with_reducible refine BrG.t ?_ | with_reducible refine BrG.f ?_ | with_reducible refine BrG.notG ?_ | with_reducible refine BrG.nn ?_ | with_reducible refine BrG.ns ?_ | refine BrG.pos (by omega) ?_ | refine BrG.neg (by omega) ?_ | with_reducible refine BrG.pos rfl ?_ | refine BrG.pos (by assumption) ?_ | refine BrG.neg (by assumption) ?_ | refine BrG.pos (by decide) ?_ | refine BrG.neg (by decide) ?_) | refine Chk.mk (ptr_ok tblOk rfl rfl) ?_ | refine Chk.mk (by decide) ?_)
  rw [e1]
  repeat (first | refine SemW.run tblOk ?_ | refine IntG.nw (by omega) ?_ | refine IntG.nu8 (by omega) ?_ | refine IntG.nu32 (by omega) ?_ | refine IntG.nu64 (by omega) ?_ | refine IntG.wr' rfl ?_ | refine Chk.mk (by omega) ?_ | (refine BrG.id ?_; first | with_reducible refine BrG.t ?_ | with_reducible refine BrG.f ?_ | with_reducible refine BrG.notG ?_ | with_reducible refine BrG.nn ?_ | with_reducible refine BrG.ns ?_ | refine BrG.pos (by omega) ?_ | refine BrG.neg (by omega) ?_ | with_reducible refine BrG.pos rfl ?_ | refine BrG.pos (by assumption) ?_ | refine BrG.neg (by assumption) ?_ | refine BrG.pos (by decide) ?_ | refine BrG.neg (by decide) ?_) | refine Chk.mk (ptr_ok tblOk rfl rfl) ?_ | refine Chk.mk (by decide) ?_)
  rw [e2]
  repeat (first | refine SemW.run tblOk ?_ | refine IntG.nw (by omega) ?_ | refine IntG.nu8 (by omega) ?_ | refine IntG.nu32 (by omega) ?_ | refine IntG.nu64 (by omega) ?_ | refine IntG.wr' rfl ?_ | refine Chk.mk (by omega) ?_ | (refine BrG.id ?_; first | with_reducible refine BrG.t ?_ | with_reducible refine BrG.f ?_ | with_reducible refine BrG.notG ?_ | with_reducible refine BrG.nn ?_ | with_reducible refine BrG.ns ?_ | refine BrG.pos (by omega) ?_ | refine BrG.neg (by omega) ?_ | with_reducible refine BrG.pos rfl ?_ | refine BrG.pos (by assumption) ?_ | refine BrG.neg (by assumption) ?_ | refine BrG.pos (by decide) ?_ | refine BrG.neg (by decide) ?_) | refine Chk.mk (ptr_ok tblOk rfl rfl) ?_ | refine Chk.mk (by decide) ?_)
  exact ⟨congrArg (fun z => Value.tuple ⟨[.int .i64 z, .int .i64 e]⟩) hz, hS⟩
theorem RDone_spec {w : World} {b : Nat} {t : Bytes} (hh : Holds [(b, rdC t)] w) :
    Cl Tryd.prog f_pack_Reader_Done [ptr b] w fun v w' => v = .bool (decide (t = [])) ∧ St w [] [] w' := by
  have hS : St w [b] [(b, rdC t)] w := St.enter hh
  refine en_pack_Reader_Done rfl ?_
  repeat (first | refine SemW.run tblOk ?_ | refine IntG.nw (by omega) ?_ | refine IntG.nu8 (by omega) ?_ | refine IntG.nu32 (by omega) ?_ | refine IntG.nu64 (by omega) ?_ | refine IntG.wr' rfl ?_ | refine Chk.mk (by omega) ?_ | (refine BrG.id ?_; first | with_reducible refine BrG.t ?_ | with_reducible refine BrG.f ?_ | with_reducible refine BrG.notG ?_ | with_reducible refine BrG.nn ?_ | with_reducible refine BrG.ns ?_ | refine BrG.pos (by omega) ?_ | refine BrG.neg (by omega) ?_ | with_reducible refine BrG.pos rfl ?_ | refine BrG.pos (by assumption) ?_ | refine BrG.neg (by assumption) ?_ | refine BrG.pos (by decide) ?_ | refine BrG.neg (by decide) ?_) | refine Chk.mk (ptr_ok tblOk rfl rfl) ?_ | refine Chk.mk (by decide) ?_ | refine hS.ld rfl ?_ | refine hS.ldn rfl ?_ | (refine hS.st rfl rfl ?_; intro _ hS))
  exact ⟨rfl, St.start w⟩
theorem PRead_spec {w : World} {t : Bytes} : Cl Tryd.prog f_pack_Read [Str t] w fun v w' => ∃ b, v = ptr b ∧ St w [] [(b, rdC t)] w' := by
  have hS := St.start w
  refine en_pack_Read rfl ?_
  repeat (first | refine SemW.run tblOk ?_ | refine IntG.nw (by omega) ?_ | refine IntG.nu8 (by omega) ?_ | refine IntG.nu32 (by omega) ?_ | refine IntG.nu64 (by omega) ?_ | refine IntG.wr' rfl ?_ | refine Chk.mk (by omega) ?_ | (refine BrG.id ?_; first | with_reducible refine BrG.t ?_ | with_reducible refine BrG.f ?_ | with_reducible refine BrG.notG ?_ | with_reducible refine BrG.nn ?_ | with_reducible refine BrG.ns ?_ | refine BrG.pos (by omega) ?_ | refine BrG.neg (by omega) ?_ | with_reducible refine BrG.pos rfl ?_ | refine BrG.pos (by assumption) ?_ | refine BrG.neg (by assumption) ?_ | refine BrG.pos (by decide) ?_ | refine BrG.neg (by decide) ?_) | refine Chk.mk (ptr_ok tblOk rfl rfl) ?_ | refine Chk.mk (by decide) ?_)
  refine hS.al ?_
  intro b w1 _ hS
  repeat (first | refine SemW.run tblOk ?_ | refine IntG.nw (by omega) ?_ | refine IntG.nu8 (by omega) ?_ | refine IntG.nu32 (by omega) ?_ | refine IntG.nu64 (by omega) ?_ | refine IntG.wr' rfl ?_ | refine Chk.mk (by omega) ?_ | (refine BrG.id ?_; first | with_reducible refine BrG.t ?_ | with_reducible refine BrG.f ?_ | with_reducible refine BrG.notG ?_ | with_reducible refine BrG.nn ?_ | with_reducible refine BrG.ns ?_ | refine BrG.pos (by omega) ?_ | refine BrG.neg (by omega) ?_ | with_reducible refine BrG.pos rfl ?_ | refine BrG.pos (by assumption) ?_ | refine BrG.neg (by assumption) ?_ | refine BrG.pos (by decide) ?_ | refine BrG.neg (by decide) ?_) | refine Chk.mk (ptr_ok tblOk rfl rfl) ?_ | refine Chk.mk (by decide) ?_)
  exact ⟨b, rfl, hS⟩
end Go.Proofs.YtklppplnkpnbhaaDoor
