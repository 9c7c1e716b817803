/- Package wal: Open, Append, Count, Torn. -/
import Derived.Test.YtnmmiiffeenjbaaScan
import Derived.Test.YtnmmiiffeenjbaaVfs
namespace Go.Proofs.Ytnmmiiffeenjbaa
open Go Go.Eng Go.Proofs

def logC (f : Nat) (name : Bytes) (n : Nat) (torn dead : Bool) : Obj := .cells ⟨[.int .i64 n, ptr f, Str name, .bool torn, .bool dead]⟩ T_wal_Log (0, 0)

def openE (m : FSm) (name : Bytes) : Int := if m.off then 7 else if named name then 0 else 4
theorem named_eq (s : Bytes) : named s = !(decide (s = []) || decide (40 < s.length)) := by
  unfold named
  by_cases h : s = []
  · simp [h]
  · simp [h, ← Nat.not_lt]

set_option maxHeartbeats 1000000 in
set_option maxRecDepth 4000 in
theorem Open_ok {w : World} {f : Nat} {m : FSm} {L : Heap} (hF : FSo f m L) (hh : Holds L w) (name : Bytes) (h0 : openE m name = 0) (hlen : (findM m name).1.1.length ≤ 1099511627776) :
    Cl Try.prog f_wal_Open [ptr f, Str name] w fun v w' => ∃ bl a cap Lv, w.heap.size ≤ bl ∧ v = .tuple ⟨[ptr bl, .slice a (scan (findM m name).1.1).1.length cap, .int .i64 0]⟩ ∧
      Vec T_string 1 a (scan (findM m name).1.1).1.length cap ((scan (findM m name).1.1).1.map Str) Lv ∧
      St w (keys L) (Lv ++ (bl, logC f name (scan (findM m name).1.1).1.length (!decide ((scan (findM m name).1.1).2 = (findM m name).1.1.length)) false) :: L) w' := by
  have hS := St.enter hh
  refine en_wal_Open rfl ?_
  unfold openE at h0
  have hoff : m.off = false := by
    cases h : m.off with
    | false => rfl
    | true => rw [h] at h0; simp at h0
  rw [hoff] at h0
  have hnm : named name = true := by
    cases h : named name with
    | true => rfl
    | false => rw [h] at h0; simp at h0
  rw [named_eq] at hnm
  simp at hnm
  repeat (first | refine SemW.run tblOk ?_ | refine IntG.nw (by omega) ?_ | refine IntG.nu8 (by omega) ?_ | refine IntG.nu32 (by omega) ?_ | refine IntG.nu64 (by omega) ?_ | refine IntG.wr' rfl ?_ | refine Chk.mk (by omega) ?_ | (refine BrG.id ?_; first | with_reducible refine BrG.t ?_ | with_reducible refine BrG.f ?_ | with_reducible refine BrG.notG ?_ | with_reducible refine BrG.nn ?_ | with_reducible refine BrG.ns ?_ | refine BrG.pos (by omega) ?_ | refine BrG.neg (by omega) ?_) | refine Chk.mk (ptr_ok tblOk rfl rfl) ?_)
  refine (Down_spec hF hS.holds).mono ?_
  rintro _ w1 ⟨rfl, hS'⟩
  have hS := hS.call hS'
  rw [hoff]
  repeat (first | refine SemW.run tblOk ?_ | refine IntG.nw (by omega) ?_ | refine IntG.nu8 (by omega) ?_ | refine IntG.nu32 (by omega) ?_ | refine IntG.nu64 (by omega) ?_ | refine IntG.wr' rfl ?_ | refine Chk.mk (by omega) ?_ | (refine BrG.id ?_; first | with_reducible refine BrG.t ?_ | with_reducible refine BrG.f ?_ | with_reducible refine BrG.notG ?_ | with_reducible refine BrG.nn ?_ | with_reducible refine BrG.ns ?_ | refine BrG.pos (by omega) ?_ | refine BrG.neg (by omega) ?_) | refine Chk.mk (ptr_ok tblOk rfl rfl) ?_)
  refine BrG.neg hnm.1 ?_
  repeat (first | refine SemW.run tblOk ?_ | refine IntG.nw (by omega) ?_ | refine IntG.nu8 (by omega) ?_ | refine IntG.nu32 (by omega) ?_ | refine IntG.nu64 (by omega) ?_ | refine IntG.wr' rfl ?_ | refine Chk.mk (by omega) ?_ | (refine BrG.id ?_; first | with_reducible refine BrG.t ?_ | with_reducible refine BrG.f ?_ | with_reducible refine BrG.notG ?_ | with_reducible refine BrG.nn ?_ | with_reducible refine BrG.ns ?_ | refine BrG.pos (by omega) ?_ | refine BrG.neg (by omega) ?_) | refine Chk.mk (ptr_ok tblOk rfl rfl) ?_)
  refine (Read_spec hF hS.holds name).mono ?_
  rintro _ w2 ⟨rfl, hS'⟩
  have hS := hS.call hS'
  generalize findM m name = y at hlen ⊢
  obtain ⟨⟨t, s⟩, e⟩ := y
  simp only at hlen ⊢
  repeat (first | refine SemW.run tblOk ?_ | refine IntG.nw (by omega) ?_ | refine IntG.nu8 (by omega) ?_ | refine IntG.nu32 (by omega) ?_ | refine IntG.nu64 (by omega) ?_ | refine IntG.wr' rfl ?_ | refine Chk.mk (by omega) ?_ | (refine BrG.id ?_; first | with_reducible refine BrG.t ?_ | with_reducible refine BrG.f ?_ | with_reducible refine BrG.notG ?_ | with_reducible refine BrG.nn ?_ | with_reducible refine BrG.ns ?_ | refine BrG.pos (by omega) ?_ | refine BrG.neg (by omega) ?_) | refine Chk.mk (ptr_ok tblOk rfl rfl) ?_)
  refine (Scan_spec t hlen).mono ?_
  rintro _ w3 ⟨a, cap, Lv, rfl, hv, hS'⟩
  have hS := hS.callNew hS'
  generalize scan t = sc at hv ⊢
  obtain ⟨ps, k⟩ := sc
  simp only at hv ⊢
  repeat (first | refine SemW.run tblOk ?_ | refine IntG.nw (by omega) ?_ | refine IntG.nu8 (by omega) ?_ | refine IntG.nu32 (by omega) ?_ | refine IntG.nu64 (by omega) ?_ | refine IntG.wr' rfl ?_ | refine Chk.mk (by omega) ?_ | (refine BrG.id ?_; first | with_reducible refine BrG.t ?_ | with_reducible refine BrG.f ?_ | with_reducible refine BrG.notG ?_ | with_reducible refine BrG.nn ?_ | with_reducible refine BrG.ns ?_ | refine BrG.pos (by omega) ?_ | refine BrG.neg (by omega) ?_) | refine Chk.mk (ptr_ok tblOk rfl rfl) ?_)
  refine hS.al ?_
  intro bl w4 hbl hS
  repeat (first | refine SemW.run tblOk ?_ | refine IntG.nw (by omega) ?_ | refine IntG.nu8 (by omega) ?_ | refine IntG.nu32 (by omega) ?_ | refine IntG.nu64 (by omega) ?_ | refine IntG.wr' rfl ?_ | refine Chk.mk (by omega) ?_ | (refine BrG.id ?_; first | with_reducible refine BrG.t ?_ | with_reducible refine BrG.f ?_ | with_reducible refine BrG.notG ?_ | with_reducible refine BrG.nn ?_ | with_reducible refine BrG.ns ?_ | refine BrG.pos (by omega) ?_ | refine BrG.neg (by omega) ?_) | refine Chk.mk (ptr_ok tblOk rfl rfl) ?_)
  refine ⟨bl, a, cap, Lv, hbl, rfl, hv, ?_⟩
  have e1 : decide ((k : Int) = (t.length : Int)) = decide (k = t.length) := by simp [Int.ofNat_inj]
  rw [e1] at hS
  exact hS.perm List.perm_middle.symm

set_option maxHeartbeats 1000000 in
theorem Open_err {w : World} {f : Nat} {m : FSm} {L : Heap} (hF : FSo f m L) (hh : Holds L w) (name : Bytes) (h0 : openE m name ≠ 0) :
    Cl Try.prog f_wal_Open [ptr f, Str name] w fun v w' => v = .tuple ⟨[.pointer none, .slice none 0 0, .int .i64 (openE m name)]⟩ ∧ St w (keys L) L w' := by
  have hS := St.enter hh
  refine en_wal_Open rfl ?_
  unfold openE at h0 ⊢
  repeat (first | refine SemW.run tblOk ?_ | refine IntG.nw (by omega) ?_ | refine IntG.nu8 (by omega) ?_ | refine IntG.nu32 (by omega) ?_ | refine IntG.nu64 (by omega) ?_ | refine IntG.wr' rfl ?_ | refine Chk.mk (by omega) ?_ | (refine BrG.id ?_; first | with_reducible refine BrG.t ?_ | with_reducible refine BrG.f ?_ | with_reducible refine BrG.notG ?_ | with_reducible refine BrG.nn ?_ | with_reducible refine BrG.ns ?_ | refine BrG.pos (by omega) ?_ | refine BrG.neg (by omega) ?_) | refine Chk.mk (ptr_ok tblOk rfl rfl) ?_)
  refine (Down_spec hF hS.holds).mono ?_
  rintro _ w1 ⟨rfl, hS'⟩
  have hS := hS.call hS'
  by_cases hoff : m.off = true
  · rw [if_pos hoff]
    rw [hoff]
    repeat (first | refine SemW.run tblOk ?_ | refine IntG.nw (by omega) ?_ | refine IntG.nu8 (by omega) ?_ | refine IntG.nu32 (by omega) ?_ | refine IntG.nu64 (by omega) ?_ | refine IntG.wr' rfl ?_ | refine Chk.mk (by omega) ?_ | (refine BrG.id ?_; first | with_reducible refine BrG.t ?_ | with_reducible refine BrG.f ?_ | with_reducible refine BrG.notG ?_ | with_reducible refine BrG.nn ?_ | with_reducible refine BrG.ns ?_ | refine BrG.pos (by omega) ?_ | refine BrG.neg (by omega) ?_) | refine Chk.mk (ptr_ok tblOk rfl rfl) ?_)
    exact ⟨rfl, hS⟩
  · have hoff' : m.off = false := by simpa using hoff
    rw [if_neg hoff] at h0 ⊢
    rw [hoff']
    have hnm : ¬ named name = true := fun h => by rw [if_pos h] at h0; exact h0 rfl
    rw [if_neg hnm]
    rw [named_eq] at hnm
    repeat (first | refine SemW.run tblOk ?_ | refine IntG.nw (by omega) ?_ | refine IntG.nu8 (by omega) ?_ | refine IntG.nu32 (by omega) ?_ | refine IntG.nu64 (by omega) ?_ | refine IntG.wr' rfl ?_ | refine Chk.mk (by omega) ?_ | (refine BrG.id ?_; first | with_reducible refine BrG.t ?_ | with_reducible refine BrG.f ?_ | with_reducible refine BrG.notG ?_ | with_reducible refine BrG.nn ?_ | with_reducible refine BrG.ns ?_ | refine BrG.pos (by omega) ?_ | refine BrG.neg (by omega) ?_) | refine Chk.mk (ptr_ok tblOk rfl rfl) ?_)
    by_cases he : name = []
    · refine BrG.pos he ?_
      repeat (first | refine SemW.run tblOk ?_ | refine IntG.nw (by omega) ?_ | refine IntG.nu8 (by omega) ?_ | refine IntG.nu32 (by omega) ?_ | refine IntG.nu64 (by omega) ?_ | refine IntG.wr' rfl ?_ | refine Chk.mk (by omega) ?_ | (refine BrG.id ?_; first | with_reducible refine BrG.t ?_ | with_reducible refine BrG.f ?_ | with_reducible refine BrG.notG ?_ | with_reducible refine BrG.nn ?_ | with_reducible refine BrG.ns ?_ | refine BrG.pos (by omega) ?_ | refine BrG.neg (by omega) ?_) | refine Chk.mk (ptr_ok tblOk rfl rfl) ?_)
      exact ⟨rfl, hS⟩
    · have : 40 < name.length := by
        apply Nat.lt_of_not_le
        intro h
        apply hnm
        simp [he]
        omega
      refine BrG.neg he ?_
      repeat (first | refine SemW.run tblOk ?_ | refine IntG.nw (by omega) ?_ | refine IntG.nu8 (by omega) ?_ | refine IntG.nu32 (by omega) ?_ | refine IntG.nu64 (by omega) ?_ | refine IntG.wr' rfl ?_ | refine Chk.mk (by omega) ?_ | (refine BrG.id ?_; first | with_reducible refine BrG.t ?_ | with_reducible refine BrG.f ?_ | with_reducible refine BrG.notG ?_ | with_reducible refine BrG.nn ?_ | with_reducible refine BrG.ns ?_ | refine BrG.pos (by omega) ?_ | refine BrG.neg (by omega) ?_) | refine Chk.mk (ptr_ok tblOk rfl rfl) ?_)
      exact ⟨rfl, hS⟩

/-- What Log.Append answers, the log's state behind it, the file system behind it. -/
def logAppM (m : FSm) (name : Bytes) (n : Nat) (torn dead : Bool) (ps : List Bytes) : Int × (Nat × Bool) × FSm :=
  if dead || m.off then (7, (n, true), m)
  else if torn then (8, (n, false), m)
  else if okLens ps = false then (2, (n, false), m)
  else if ps = [] then (0, (n, false), m)
  else if (appendM m name [sealB ps]).1 ≠ 0 then ((appendM m name [sealB ps]).1, (n, decide ((appendM m name [sealB ps]).1 = 7)), (appendM m name [sealB ps]).2)
  else ((syncM (appendM m name [sealB ps]).2 name).1, (if (syncM (appendM m name [sealB ps]).2 name).1 = 0 then n + ps.length else n, decide ((syncM (appendM m name [sealB ps]).2 name).1 = 7)), (syncM (appendM m name [sealB ps]).2 name).2)

set_option maxHeartbeats 1000000 in
theorem LogAppend_spec {w : World} {bl f : Nat} {m : FSm} {L : Heap} {name : Bytes} {n : Nat} {torn dead : Bool} (hF : FSo f m L) (hh : Holds ((bl, logC f name n torn dead) :: L) w) {a : Option Addr} {cap : Nat} {ps : List Bytes}
    (ha : Arr w (keys ((bl, logC f name n torn dead) :: L)) a (ps.map Str)) (hps : sumLen ps + 8 * ps.length + ((fget m name).getD ([], 0)).1.length ≤ 140737488355328) (hn : n + ps.length ≤ 9223372036854775807)
    (h1 : m.armed + 2 ≤ 9223372036854775807) (h2 : m.acts + 2 ≤ 9223372036854775807) :
    Cl Try.prog f_wal_Log_Append [ptr bl, .slice a ps.length cap] w fun v w' => v = .int .i64 (logAppM m name n torn dead ps).1 ∧
      ∃ L', FSo f (logAppM m name n torn dead ps).2.2 L' ∧ St w (keys ((bl, logC f name n torn dead) :: L)) ((bl, logC f name (logAppM m name n torn dead ps).2.1.1 torn (logAppM m name n torn dead ps).2.1.2) :: L') w' := by
  have hS := St.enter hh
  unfold logC at hS ha ⊢
  refine en_wal_Log_Append rfl ?_
  by_cases hd : dead = true
  · subst hd
    have hM : logAppM m name n torn true ps = (7, (n, true), m) := by simp [logAppM]
    rw [hM]
    repeat (first | refine SemW.run tblOk ?_ | refine IntG.nw (by omega) ?_ | refine IntG.nu8 (by omega) ?_ | refine IntG.nu32 (by omega) ?_ | refine IntG.nu64 (by omega) ?_ | refine IntG.wr' rfl ?_ | refine Chk.mk (by omega) ?_ | (refine BrG.id ?_; first | with_reducible refine BrG.t ?_ | with_reducible refine BrG.f ?_ | with_reducible refine BrG.notG ?_ | with_reducible refine BrG.nn ?_ | with_reducible refine BrG.ns ?_ | refine BrG.pos (by omega) ?_ | refine BrG.neg (by omega) ?_) | refine Chk.mk (ptr_ok tblOk rfl rfl) ?_ | refine hS.ld rfl ?_ | refine hS.ldn rfl ?_ | (refine hS.st rfl rfl ?_; intro _ hS))
    exact ⟨rfl, L, hF, hS⟩
  · have hd' : dead = false := by simpa using hd
    subst hd'
    repeat (first | refine SemW.run tblOk ?_ | refine IntG.nw (by omega) ?_ | refine IntG.nu8 (by omega) ?_ | refine IntG.nu32 (by omega) ?_ | refine IntG.nu64 (by omega) ?_ | refine IntG.wr' rfl ?_ | refine Chk.mk (by omega) ?_ | (refine BrG.id ?_; first | with_reducible refine BrG.t ?_ | with_reducible refine BrG.f ?_ | with_reducible refine BrG.notG ?_ | with_reducible refine BrG.nn ?_ | with_reducible refine BrG.ns ?_ | refine BrG.pos (by omega) ?_ | refine BrG.neg (by omega) ?_) | refine Chk.mk (ptr_ok tblOk rfl rfl) ?_ | refine hS.ld rfl ?_ | refine hS.ldn rfl ?_ | (refine hS.st rfl rfl ?_; intro _ hS))
    refine (Down_spec hF (hS.part (L := L))).mono ?_
    rintro _ w1 ⟨rfl, hS'⟩
    have hS := hS.call (L := L) hS'
    by_cases hoff : m.off = true
    · rw [hoff]
      have hM : logAppM m name n torn false ps = (7, (n, true), m) := by simp [logAppM, hoff]
      rw [hM]
      repeat (first | refine SemW.run tblOk ?_ | refine IntG.nw (by omega) ?_ | refine IntG.nu8 (by omega) ?_ | refine IntG.nu32 (by omega) ?_ | refine IntG.nu64 (by omega) ?_ | refine IntG.wr' rfl ?_ | refine Chk.mk (by omega) ?_ | (refine BrG.id ?_; first | with_reducible refine BrG.t ?_ | with_reducible refine BrG.f ?_ | with_reducible refine BrG.notG ?_ | with_reducible refine BrG.nn ?_ | with_reducible refine BrG.ns ?_ | refine BrG.pos (by omega) ?_ | refine BrG.neg (by omega) ?_) | refine Chk.mk (ptr_ok tblOk rfl rfl) ?_ | refine hS.ld rfl ?_ | refine hS.ldn rfl ?_ | (refine hS.st rfl rfl ?_; intro _ hS))
      exact ⟨rfl, L, hF, hS⟩
    · have hoff' : m.off = false := by simpa using hoff
      rw [hoff']
      repeat (first | refine SemW.run tblOk ?_ | refine IntG.nw (by omega) ?_ | refine IntG.nu8 (by omega) ?_ | refine IntG.nu32 (by omega) ?_ | refine IntG.nu64 (by omega) ?_ | refine IntG.wr' rfl ?_ | refine Chk.mk (by omega) ?_ | (refine BrG.id ?_; first | with_reducible refine BrG.t ?_ | with_reducible refine BrG.f ?_ | with_reducible refine BrG.notG ?_ | with_reducible refine BrG.nn ?_ | with_reducible refine BrG.ns ?_ | refine BrG.pos (by omega) ?_ | refine BrG.neg (by omega) ?_) | refine Chk.mk (ptr_ok tblOk rfl rfl) ?_ | refine hS.ld rfl ?_ | refine hS.ldn rfl ?_ | (refine hS.st rfl rfl ?_; intro _ hS))
      cases torn with
      | true =>
        have hM : logAppM m name n true false ps = (8, (n, false), m) := by simp [logAppM, hoff']
        rw [hM]
        repeat (first | refine SemW.run tblOk ?_ | refine IntG.nw (by omega) ?_ | refine IntG.nu8 (by omega) ?_ | refine IntG.nu32 (by omega) ?_ | refine IntG.nu64 (by omega) ?_ | refine IntG.wr' rfl ?_ | refine Chk.mk (by omega) ?_ | (refine BrG.id ?_; first | with_reducible refine BrG.t ?_ | with_reducible refine BrG.f ?_ | with_reducible refine BrG.notG ?_ | with_reducible refine BrG.nn ?_ | with_reducible refine BrG.ns ?_ | refine BrG.pos (by omega) ?_ | refine BrG.neg (by omega) ?_) | refine Chk.mk (ptr_ok tblOk rfl rfl) ?_ | refine hS.ld rfl ?_ | refine hS.ldn rfl ?_ | (refine hS.st rfl rfl ?_; intro _ hS))
        exact ⟨rfl, L, hF, hS⟩
      | false =>
        repeat (first | refine SemW.run tblOk ?_ | refine IntG.nw (by omega) ?_ | refine IntG.nu8 (by omega) ?_ | refine IntG.nu32 (by omega) ?_ | refine IntG.nu64 (by omega) ?_ | refine IntG.wr' rfl ?_ | refine Chk.mk (by omega) ?_ | (refine BrG.id ?_; first | with_reducible refine BrG.t ?_ | with_reducible refine BrG.f ?_ | with_reducible refine BrG.notG ?_ | with_reducible refine BrG.nn ?_ | with_reducible refine BrG.ns ?_ | refine BrG.pos (by omega) ?_ | refine BrG.neg (by omega) ?_) | refine Chk.mk (ptr_ok tblOk rfl rfl) ?_ | refine hS.ld rfl ?_ | refine hS.ldn rfl ?_ | (refine hS.st rfl rfl ?_; intro _ hS))
        refine (Seal_spec (by omega) ((hS.arrOld ha).sub (by simp))).mono ?_
        rintro _ w2 ⟨rfl, hS'⟩
        have hS := hS.call0 hS'
        by_cases hok : okLens ps = false
        · have hM : logAppM m name n false false ps = (2, (n, false), m) := by simp [logAppM, hoff', hok]
          rw [hM, hok]
          repeat (first | refine SemW.run tblOk ?_ | refine IntG.nw (by omega) ?_ | refine IntG.nu8 (by omega) ?_ | refine IntG.nu32 (by omega) ?_ | refine IntG.nu64 (by omega) ?_ | refine IntG.wr' rfl ?_ | refine Chk.mk (by omega) ?_ | (refine BrG.id ?_; first | with_reducible refine BrG.t ?_ | with_reducible refine BrG.f ?_ | with_reducible refine BrG.notG ?_ | with_reducible refine BrG.nn ?_ | with_reducible refine BrG.ns ?_ | refine BrG.pos (by omega) ?_ | refine BrG.neg (by omega) ?_) | refine Chk.mk (ptr_ok tblOk rfl rfl) ?_)
          exact ⟨rfl, L, hF, hS⟩
        · have hok' : okLens ps = true := by simpa using hok
          rw [hok', if_pos rfl]
          by_cases he : ps = []
          · have hM : logAppM m name n false false ps = (0, (n, false), m) := by simp [logAppM, hoff', he, okLens]
            rw [hM]
            have hl0 : ps.length = 0 := by rw [he]; rfl
            repeat (first | refine SemW.run tblOk ?_ | refine IntG.nw (by omega) ?_ | refine IntG.nu8 (by omega) ?_ | refine IntG.nu32 (by omega) ?_ | refine IntG.nu64 (by omega) ?_ | refine IntG.wr' rfl ?_ | refine Chk.mk (by omega) ?_ | (refine BrG.id ?_; first | with_reducible refine BrG.t ?_ | with_reducible refine BrG.f ?_ | with_reducible refine BrG.notG ?_ | with_reducible refine BrG.nn ?_ | with_reducible refine BrG.ns ?_ | refine BrG.pos (by omega) ?_ | refine BrG.neg (by omega) ?_) | refine Chk.mk (ptr_ok tblOk rfl rfl) ?_)
            exact ⟨rfl, L, hF, hS⟩
          · have hl0 : 0 < ps.length := by cases ps with | nil => exact absurd rfl he | cons => simp
            have hM : logAppM m name n false false ps = if (appendM m name [sealB ps]).1 ≠ 0 then ((appendM m name [sealB ps]).1, (n, decide ((appendM m name [sealB ps]).1 = 7)), (appendM m name [sealB ps]).2)
                else ((syncM (appendM m name [sealB ps]).2 name).1, (if (syncM (appendM m name [sealB ps]).2 name).1 = 0 then n + ps.length else n, decide ((syncM (appendM m name [sealB ps]).2 name).1 = 7)), (syncM (appendM m name [sealB ps]).2 name).2) := by
              simp only [logAppM, hoff', hok', he]; rfl
            rw [hM]
            have hsl := sealB_len ps
            generalize sealB ps = sb at hsl ⊢
            repeat (first | refine SemW.run tblOk ?_ | refine IntG.nw (by omega) ?_ | refine IntG.nu8 (by omega) ?_ | refine IntG.nu32 (by omega) ?_ | refine IntG.nu64 (by omega) ?_ | refine IntG.wr' rfl ?_ | refine Chk.mk (by omega) ?_ | (refine BrG.id ?_; first | with_reducible refine BrG.t ?_ | with_reducible refine BrG.f ?_ | with_reducible refine BrG.notG ?_ | with_reducible refine BrG.nn ?_ | with_reducible refine BrG.ns ?_ | refine BrG.pos (by omega) ?_ | refine BrG.neg (by omega) ?_) | refine Chk.mk (ptr_ok tblOk rfl rfl) ?_)
            refine SemW.draw tblOk mixed (fun w' => St w (keys ((bl, .cells ⟨[.int .i64 n, ptr f, Str name, .bool false, .bool false]⟩ T_wal_Log (0, 0)) :: L)) ((bl, .cells ⟨[.int .i64 n, ptr f, Str name, .bool false, .bool false]⟩ T_wal_Log (0, 0)) :: L) w')
              [10, 11] [0, 1, 2, 3, 4, 5, 6, 7, 8, 9, 10, 11] (by kernel_rfl) hS.drew ?_
            have hS := hS.drew
            repeat (first | refine SemW.run tblOk ?_ | refine IntG.nw (by omega) ?_ | refine IntG.nu8 (by omega) ?_ | refine IntG.nu32 (by omega) ?_ | refine IntG.nu64 (by omega) ?_ | refine IntG.wr' rfl ?_ | refine Chk.mk (by omega) ?_ | (refine BrG.id ?_; first | with_reducible refine BrG.t ?_ | with_reducible refine BrG.f ?_ | with_reducible refine BrG.notG ?_ | with_reducible refine BrG.nn ?_ | with_reducible refine BrG.ns ?_ | refine BrG.pos (by omega) ?_ | refine BrG.neg (by omega) ?_) | refine Chk.mk (ptr_ok tblOk rfl rfl) ?_ | refine hS.ldC rfl ?_ | refine hS.ldnC rfl ?_)
            refine hS.al ?_
            intro b2 w3 _ hS
            refine Chk.mk (hS.sub (List.sublist_cons_self _ _)) ?_
            refine (Append_spec hF (hS.part (L := L)) name (ps := [sb]) (hS.arr (b := b2) (fun h => by have := hS.nd; simp only [keys, List.map_cons, List.nodup_cons, List.mem_cons, not_or] at this h; exact this.1.2 h)) (by simp) (by simp) ?_ (by omega) (by omega)).mono ?_
            · have : sumLen [sb] = sb.length := by simp [sumLen]
              omega
            rintro _ w4 ⟨rfl, L1, hF1, hS'⟩
            have hS := (hS.call (L := L) hS').sub (List.sublist_cons_self _ _)
            have hm1 : (appendM m name [sb]).2.armed ≤ m.armed + 1 := by
              unfold appendM acted; (repeat' split) <;> first | exact Nat.le_refl _ | exact Nat.le_succ _
            have hm2 : (appendM m name [sb]).2.acts ≤ m.acts + 1 := by
              unfold appendM acted; (repeat' split) <;> first | exact Nat.le_refl _ | exact Nat.le_succ _
            generalize appendM m name [sb] = am at hF1 hm1 hm2 ⊢
            obtain ⟨e1, m1⟩ := am
            simp only at hF1 hm1 hm2 ⊢
            by_cases h0 : e1 = 0
            · subst h0
              rw [if_neg (by simp)]
              repeat (first | refine SemW.run tblOk ?_ | refine IntG.nw (by omega) ?_ | refine IntG.nu8 (by omega) ?_ | refine IntG.nu32 (by omega) ?_ | refine IntG.nu64 (by omega) ?_ | refine IntG.wr' rfl ?_ | refine Chk.mk (by omega) ?_ | (refine BrG.id ?_; first | with_reducible refine BrG.t ?_ | with_reducible refine BrG.f ?_ | with_reducible refine BrG.notG ?_ | with_reducible refine BrG.nn ?_ | with_reducible refine BrG.ns ?_ | refine BrG.pos (by omega) ?_ | refine BrG.neg (by omega) ?_) | refine Chk.mk (ptr_ok tblOk rfl rfl) ?_)
              refine SemW.draw tblOk mixed (fun w' => St w (keys ((bl, .cells ⟨[.int .i64 n, ptr f, Str name, .bool false, .bool false]⟩ T_wal_Log (0, 0)) :: L)) ((bl, .cells ⟨[.int .i64 n, ptr f, Str name, .bool false, .bool false]⟩ T_wal_Log (0, 0)) :: L1) w')
                [8, 9] [0, 1, 2, 3, 4, 5, 6, 7, 8, 9] (by kernel_rfl) hS.drew ?_
              have hS := hS.drew
              repeat (first | refine SemW.run tblOk ?_ | refine IntG.nw (by omega) ?_ | refine IntG.nu8 (by omega) ?_ | refine IntG.nu32 (by omega) ?_ | refine IntG.nu64 (by omega) ?_ | refine IntG.wr' rfl ?_ | refine Chk.mk (by omega) ?_ | (refine BrG.id ?_; first | with_reducible refine BrG.t ?_ | with_reducible refine BrG.f ?_ | with_reducible refine BrG.notG ?_ | with_reducible refine BrG.nn ?_ | with_reducible refine BrG.ns ?_ | refine BrG.pos (by omega) ?_ | refine BrG.neg (by omega) ?_) | refine Chk.mk (ptr_ok tblOk rfl rfl) ?_ | refine hS.ldC rfl ?_ | refine hS.ldnC rfl ?_)
              refine (Sync_spec hF1 (hS.part (L := L1)) name (by omega) (by omega)).mono ?_
              rintro _ w5 ⟨rfl, L2, hF2, hS'⟩
              have hS := hS.call (L := L1) hS'
              generalize syncM m1 name = am at hF2 ⊢
              obtain ⟨e2, m2⟩ := am
              simp only at hF2 ⊢
              by_cases h7 : e2 = 0
              · subst h7
                rw [if_pos rfl]
                repeat (first | refine SemW.run tblOk ?_ | refine IntG.nw (by omega) ?_ | refine IntG.nu8 (by omega) ?_ | refine IntG.nu32 (by omega) ?_ | refine IntG.nu64 (by omega) ?_ | refine IntG.wr' rfl ?_ | refine Chk.mk (by omega) ?_ | (refine BrG.id ?_; first | with_reducible refine BrG.t ?_ | with_reducible refine BrG.f ?_ | with_reducible refine BrG.notG ?_ | with_reducible refine BrG.nn ?_ | with_reducible refine BrG.ns ?_ | refine BrG.pos (by omega) ?_ | refine BrG.neg (by omega) ?_) | refine Chk.mk (ptr_ok tblOk rfl rfl) ?_ | refine hS.ld rfl ?_ | refine hS.ldn rfl ?_ | (refine hS.st rfl rfl ?_; intro _ hS))
                exact ⟨rfl, L2, hF2, hS⟩
              · rw [if_neg h7]
                repeat (first | refine SemW.run tblOk ?_ | refine IntG.nw (by omega) ?_ | refine IntG.nu8 (by omega) ?_ | refine IntG.nu32 (by omega) ?_ | refine IntG.nu64 (by omega) ?_ | refine IntG.wr' rfl ?_ | refine Chk.mk (by omega) ?_ | (refine BrG.id ?_; first | with_reducible refine BrG.t ?_ | with_reducible refine BrG.f ?_ | with_reducible refine BrG.notG ?_ | with_reducible refine BrG.nn ?_ | with_reducible refine BrG.ns ?_ | refine BrG.pos (by omega) ?_ | refine BrG.neg (by omega) ?_) | refine Chk.mk (ptr_ok tblOk rfl rfl) ?_ | refine hS.ld rfl ?_ | refine hS.ldn rfl ?_ | (refine hS.st rfl rfl ?_; intro _ hS))
                exact ⟨rfl, L2, hF2, hS⟩
            · rw [if_pos h0]
              repeat (first | refine SemW.run tblOk ?_ | refine IntG.nw (by omega) ?_ | refine IntG.nu8 (by omega) ?_ | refine IntG.nu32 (by omega) ?_ | refine IntG.nu64 (by omega) ?_ | refine IntG.wr' rfl ?_ | refine Chk.mk (by omega) ?_ | (refine BrG.id ?_; first | with_reducible refine BrG.t ?_ | with_reducible refine BrG.f ?_ | with_reducible refine BrG.notG ?_ | with_reducible refine BrG.nn ?_ | with_reducible refine BrG.ns ?_ | refine BrG.pos (by omega) ?_ | refine BrG.neg (by omega) ?_) | refine Chk.mk (ptr_ok tblOk rfl rfl) ?_ | refine hS.ld rfl ?_ | refine hS.ldn rfl ?_ | (refine hS.st rfl rfl ?_; intro _ hS))
              exact ⟨rfl, L1, hF1, hS⟩

theorem Count_spec {w : World} {bl f : Nat} {L : Heap} {name : Bytes} {n : Nat} {torn dead : Bool} (hh : Holds ((bl, logC f name n torn dead) :: L) w) :
    Cl Try.prog f_wal_tally_Count [ptr bl] w fun v w' => v = .int .i64 n ∧ St w [] [] w' := by
  have hS := St.enter hh
  unfold logC at hS
  refine en_wal_tally_Count rfl ?_
  repeat (first | refine SemW.run tblOk ?_ | refine IntG.nw (by omega) ?_ | refine IntG.nu8 (by omega) ?_ | refine IntG.nu32 (by omega) ?_ | refine IntG.nu64 (by omega) ?_ | refine IntG.wr' rfl ?_ | refine Chk.mk (by omega) ?_ | (refine BrG.id ?_; first | with_reducible refine BrG.t ?_ | with_reducible refine BrG.f ?_ | with_reducible refine BrG.notG ?_ | with_reducible refine BrG.nn ?_ | with_reducible refine BrG.ns ?_ | refine BrG.pos (by omega) ?_ | refine BrG.neg (by omega) ?_) | refine Chk.mk (ptr_ok tblOk rfl rfl) ?_ | refine hS.ld rfl ?_ | refine hS.ldn rfl ?_ | (refine hS.st rfl rfl ?_; intro _ hS))
  exact ⟨rfl, St.start w⟩
theorem Torn_spec {w : World} {bl f : Nat} {L : Heap} {name : Bytes} {n : Nat} {torn dead : Bool} (hh : Holds ((bl, logC f name n torn dead) :: L) w) :
    Cl Try.prog f_wal_Log_Torn [ptr bl] w fun v w' => v = .bool torn ∧ St w [] [] w' := by
  have hS := St.enter hh
  unfold logC at hS
  refine en_wal_Log_Torn rfl ?_
  repeat (first | refine SemW.run tblOk ?_ | refine IntG.nw (by omega) ?_ | refine IntG.nu8 (by omega) ?_ | refine IntG.nu32 (by omega) ?_ | refine IntG.nu64 (by omega) ?_ | refine IntG.wr' rfl ?_ | refine Chk.mk (by omega) ?_ | (refine BrG.id ?_; first | with_reducible refine BrG.t ?_ | with_reducible refine BrG.f ?_ | with_reducible refine BrG.notG ?_ | with_reducible refine BrG.nn ?_ | with_reducible refine BrG.ns ?_ | refine BrG.pos (by omega) ?_ | refine BrG.neg (by omega) ?_) | refine Chk.mk (ptr_ok tblOk rfl rfl) ?_ | refine hS.ld rfl ?_ | refine hS.ldn rfl ?_ | (refine hS.st rfl rfl ?_; intro _ hS))
  exact ⟨rfl, St.start w⟩

end Go.Proofs.Ytnmmiiffeenjbaa
