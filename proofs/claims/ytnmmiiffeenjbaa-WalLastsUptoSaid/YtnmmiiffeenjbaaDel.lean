/- vfs.Delete, wal.Rewrite. -/
import Derived.Test.YtnmmiiffeenjbaaEach
namespace Go.Proofs.Ytnmmiiffeenjbaa
open Go Go.Eng Go.Proofs

def deleteM (m : FSm) (name : Bytes) : Int × FSm :=
  if (findM m name).2 ≠ 0 then ((findM m name).2, m)
  else (if (acted m).off then 7 else 0, if fateOf m = 1 then acted m else { acted m with files := kdel name m.files })

set_option maxHeartbeats 1000000 in
theorem Delete_spec {w : World} {b : Nat} {m : FSm} {L : Heap} (hF : FSo b m L) (hh : Holds L w) (name : Bytes) (h1 : m.armed + 1 ≤ 9223372036854775807) (h2 : m.acts + 1 ≤ 9223372036854775807) :
    Cl Try.prog f_vfs_FS_Delete [ptr b, Str name] w fun v w' => v = .int .i64 (deleteM m name).1 ∧ ∃ L', FSo b (deleteM m name).2 L' ∧ St w (keys L) L' w' := by
  refine en_vfs_FS_Delete rfl ?_
  unfold deleteM
  repeat (first | refine SemW.run tblOk ?_ | refine IntG.nw (by omega) ?_ | refine IntG.nu8 (by omega) ?_ | refine IntG.nu32 (by omega) ?_ | refine IntG.nu64 (by omega) ?_ | refine IntG.wr' rfl ?_ | refine Chk.mk (by omega) ?_ | (refine BrG.id ?_; first | with_reducible refine BrG.t ?_ | with_reducible refine BrG.f ?_ | with_reducible refine BrG.notG ?_ | with_reducible refine BrG.nn ?_ | with_reducible refine BrG.ns ?_ | refine BrG.pos (by omega) ?_ | refine BrG.neg (by omega) ?_) | refine Chk.mk (ptr_ok tblOk rfl rfl) ?_)
  refine (find_spec hF hh name).mono ?_
  rintro _ w1 ⟨rfl, hS⟩
  generalize findM m name = y
  obtain ⟨x, e⟩ := y
  repeat (first | refine SemW.run tblOk ?_ | refine IntG.nw (by omega) ?_ | refine IntG.nu8 (by omega) ?_ | refine IntG.nu32 (by omega) ?_ | refine IntG.nu64 (by omega) ?_ | refine IntG.wr' rfl ?_ | refine Chk.mk (by omega) ?_ | (refine BrG.id ?_; first | with_reducible refine BrG.t ?_ | with_reducible refine BrG.f ?_ | with_reducible refine BrG.notG ?_ | with_reducible refine BrG.nn ?_ | with_reducible refine BrG.ns ?_ | refine BrG.pos (by omega) ?_ | refine BrG.neg (by omega) ?_) | refine Chk.mk (ptr_ok tblOk rfl rfl) ?_)
  refine hS.al ?_
  intro r w2 _ hS
  repeat (first | refine SemW.run tblOk ?_ | refine IntG.nw (by omega) ?_ | refine IntG.nu8 (by omega) ?_ | refine IntG.nu32 (by omega) ?_ | refine IntG.nu64 (by omega) ?_ | refine IntG.wr' rfl ?_ | refine Chk.mk (by omega) ?_ | (refine BrG.id ?_; first | with_reducible refine BrG.t ?_ | with_reducible refine BrG.f ?_ | with_reducible refine BrG.notG ?_ | with_reducible refine BrG.nn ?_ | with_reducible refine BrG.ns ?_ | refine BrG.pos (by omega) ?_ | refine BrG.neg (by omega) ?_) | refine Chk.mk (ptr_ok tblOk rfl rfl) ?_ | refine hS.ld rfl ?_ | refine hS.ldn rfl ?_ | (refine hS.st rfl rfl ?_; intro _ hS))
  by_cases he : e = 0
  · subst he
    rw [if_neg (by simp)]
    repeat (first | refine SemW.run tblOk ?_ | refine IntG.nw (by omega) ?_ | refine IntG.nu8 (by omega) ?_ | refine IntG.nu32 (by omega) ?_ | refine IntG.nu64 (by omega) ?_ | refine IntG.wr' rfl ?_ | refine Chk.mk (by omega) ?_ | (refine BrG.id ?_; first | with_reducible refine BrG.t ?_ | with_reducible refine BrG.f ?_ | with_reducible refine BrG.notG ?_ | with_reducible refine BrG.nn ?_ | with_reducible refine BrG.ns ?_ | refine BrG.pos (by omega) ?_ | refine BrG.neg (by omega) ?_) | refine Chk.mk (ptr_ok tblOk rfl rfl) ?_)
    refine (act_spec hF (hS.part (L := L)) h1 h2).mono ?_
    rintro _ w3 ⟨rfl, L1, hF1, hS'⟩
    have hS := hS.call (L := L) hS'
    generalize keys L = T0 at hS ⊢
    by_cases h4 : fateOf m = 1
    · rw [if_pos h4]
      repeat (first | refine SemW.run tblOk ?_ | refine IntG.nw (by omega) ?_ | refine IntG.nu8 (by omega) ?_ | refine IntG.nu32 (by omega) ?_ | refine IntG.nu64 (by omega) ?_ | refine IntG.wr' rfl ?_ | refine Chk.mk (by omega) ?_ | (refine BrG.id ?_; first | with_reducible refine BrG.t ?_ | with_reducible refine BrG.f ?_ | with_reducible refine BrG.notG ?_ | with_reducible refine BrG.nn ?_ | with_reducible refine BrG.ns ?_ | refine BrG.pos (by omega) ?_ | refine BrG.neg (by omega) ?_) | refine Chk.mk (ptr_ok tblOk rfl rfl) ?_)
      refine (done_spec hF1 (hS.part (L := L1))).mono ?_
      rintro _ w6 ⟨rfl, hS'⟩
      have hS := hS.call (L := L1) hS'
      repeat (first | refine SemW.run tblOk ?_ | refine IntG.nw (by omega) ?_ | refine IntG.nu8 (by omega) ?_ | refine IntG.nu32 (by omega) ?_ | refine IntG.nu64 (by omega) ?_ | refine IntG.wr' rfl ?_ | refine Chk.mk (by omega) ?_ | (refine BrG.id ?_; first | with_reducible refine BrG.t ?_ | with_reducible refine BrG.f ?_ | with_reducible refine BrG.notG ?_ | with_reducible refine BrG.nn ?_ | with_reducible refine BrG.ns ?_ | refine BrG.pos (by omega) ?_ | refine BrG.neg (by omega) ?_) | refine Chk.mk (ptr_ok tblOk rfl rfl) ?_)
      exact ⟨rfl, _, hF1, hS.sub (List.sublist_cons_self _ _)⟩
    · rw [if_neg h4]
      obtain ⟨mf1, es1, c1, hes1, ft1, Lf1, hf1⟩ := hF1
      generalize hac : (acted m).off = off1 at hS ⊢
      repeat (first | refine SemW.run tblOk ?_ | refine IntG.nw (by omega) ?_ | refine IntG.nu8 (by omega) ?_ | refine IntG.nu32 (by omega) ?_ | refine IntG.nu64 (by omega) ?_ | refine IntG.wr' rfl ?_ | refine Chk.mk (by omega) ?_ | (refine BrG.id ?_; first | with_reducible refine BrG.t ?_ | with_reducible refine BrG.f ?_ | with_reducible refine BrG.notG ?_ | with_reducible refine BrG.nn ?_ | with_reducible refine BrG.ns ?_ | refine BrG.pos (by omega) ?_ | refine BrG.neg (by omega) ?_) | refine Chk.mk (ptr_ok tblOk rfl rfl) ?_ | refine hS.ld rfl ?_ | refine hS.ldn rfl ?_ | (refine hS.st rfl rfl ?_; intro _ hS))
      refine St.mapDel tblOk KEnc.str rfl rfl und_str hS hes1 ?_
      intro es2 c2 w5 hes2 hS
      have hS := hS.sub (List.sublist_cons_self _ _)
      repeat (first | refine SemW.run tblOk ?_ | refine IntG.nw (by omega) ?_ | refine IntG.nu8 (by omega) ?_ | refine IntG.nu32 (by omega) ?_ | refine IntG.nu64 (by omega) ?_ | refine IntG.wr' rfl ?_ | refine Chk.mk (by omega) ?_ | (refine BrG.id ?_; first | with_reducible refine BrG.t ?_ | with_reducible refine BrG.f ?_ | with_reducible refine BrG.notG ?_ | with_reducible refine BrG.nn ?_ | with_reducible refine BrG.ns ?_ | refine BrG.pos (by omega) ?_ | refine BrG.neg (by omega) ?_) | refine Chk.mk (ptr_ok tblOk rfl rfl) ?_)
      have hF2 := FSo.mk (b := b) (m := { acted m with files := kdel name m.files }) mf1 es2 c2 hes2 ft1 Lf1 hf1
      subst hac
      refine (done_spec hF2 hS.holds).mono ?_
      rintro _ w6 ⟨rfl, hS'⟩
      have hS := hS.call hS'
      repeat (first | refine SemW.run tblOk ?_ | refine IntG.nw (by omega) ?_ | refine IntG.nu8 (by omega) ?_ | refine IntG.nu32 (by omega) ?_ | refine IntG.nu64 (by omega) ?_ | refine IntG.wr' rfl ?_ | refine Chk.mk (by omega) ?_ | (refine BrG.id ?_; first | with_reducible refine BrG.t ?_ | with_reducible refine BrG.f ?_ | with_reducible refine BrG.notG ?_ | with_reducible refine BrG.nn ?_ | with_reducible refine BrG.ns ?_ | refine BrG.pos (by omega) ?_ | refine BrG.neg (by omega) ?_) | refine Chk.mk (ptr_ok tblOk rfl rfl) ?_)
      exact ⟨rfl, _, hF2, hS⟩
  · rw [if_pos he]
    repeat (first | refine SemW.run tblOk ?_ | refine IntG.nw (by omega) ?_ | refine IntG.nu8 (by omega) ?_ | refine IntG.nu32 (by omega) ?_ | refine IntG.nu64 (by omega) ?_ | refine IntG.wr' rfl ?_ | refine Chk.mk (by omega) ?_ | (refine BrG.id ?_; first | with_reducible refine BrG.t ?_ | with_reducible refine BrG.f ?_ | with_reducible refine BrG.notG ?_ | with_reducible refine BrG.nn ?_ | with_reducible refine BrG.ns ?_ | refine BrG.pos (by omega) ?_ | refine BrG.neg (by omega) ?_) | refine Chk.mk (ptr_ok tblOk rfl rfl) ?_)
    exact ⟨rfl, L, hF, hS.sub (List.sublist_cons_self _ _)⟩

theorem deleteM_calm (o : Option Bytes) (k : Nat) : deleteM (fsmT o k) logN = match o with | none => (5, fsmT none k) | some _ => (0, fsmT none (k + 1)) := by
  cases o <;> simp [deleteM, findM, fsmT, fget, kget, logN, fateOf, acted, kdel]
theorem appendM_calm0 (k : Nat) (s : Bytes) : appendM (fsmT none k) logN [s] = (0, ⟨[(logN, (s, 0))], [], k + 1, k + 1, false⟩) := by
  simp [appendM, fsmT, named, logN, fateOf, kget, acted, kput, fget]
theorem syncM_calm0 (k : Nat) (s : Bytes) : syncM ⟨[(logN, (s, 0))], [], k, k, false⟩ logN = (0, fsmT (some s) (k + 1)) := by
  simp [syncM, findM, fsmT, logN, fateOf, kget, acted, kput, fget]

set_option maxHeartbeats 1000000 in
/-- Rewrite on a calm file system. -/
theorem Rewrite_calm {w : World} {f : Nat} {L : Heap} {o : Option Bytes} {k : Nat} (hF : FSo f (fsmT o k) L) (hh : Holds L w) {a : Option Addr} {cap : Nat} {ps : List Bytes}
    (ha : Arr w (keys L) a (ps.map Str)) (hlen : sumLen ps + 8 * ps.length ≤ 140737488355328) (hk : k + 3 ≤ 9223372036854775807) :
    Cl Try.prog f_wal_Rewrite [ptr f, Str logN, .slice a ps.length cap] w fun v w' => v = .int .i64 (if okLens ps then 0 else 2) ∧
      ∃ L', FSo f (if okLens ps then fsmT (some (sealB ps)) (if o.isSome then k + 3 else k + 2) else fsmT o k) L' ∧ St w (keys L) L' w' := by
  have hS := St.enter hh
  refine en_wal_Rewrite rfl ?_
  repeat (first | refine SemW.run tblOk ?_ | refine IntG.nw (by omega) ?_ | refine IntG.nu8 (by omega) ?_ | refine IntG.nu32 (by omega) ?_ | refine IntG.nu64 (by omega) ?_ | refine IntG.wr' rfl ?_ | refine Chk.mk (by omega) ?_ | (refine BrG.id ?_; first | with_reducible refine BrG.t ?_ | with_reducible refine BrG.f ?_ | with_reducible refine BrG.notG ?_ | with_reducible refine BrG.nn ?_ | with_reducible refine BrG.ns ?_ | refine BrG.pos (by omega) ?_ | refine BrG.neg (by omega) ?_) | refine Chk.mk (ptr_ok tblOk rfl rfl) ?_)
  refine (Seal_spec hlen (ha.sub (by simp))).mono ?_
  rintro _ w1 ⟨rfl, hS'⟩
  have hS := hS.call0 hS'
  by_cases hok : okLens ps = false
  · rw [hok]
    repeat (first | refine SemW.run tblOk ?_ | refine IntG.nw (by omega) ?_ | refine IntG.nu8 (by omega) ?_ | refine IntG.nu32 (by omega) ?_ | refine IntG.nu64 (by omega) ?_ | refine IntG.wr' rfl ?_ | refine Chk.mk (by omega) ?_ | (refine BrG.id ?_; first | with_reducible refine BrG.t ?_ | with_reducible refine BrG.f ?_ | with_reducible refine BrG.notG ?_ | with_reducible refine BrG.nn ?_ | with_reducible refine BrG.ns ?_ | refine BrG.pos (by omega) ?_ | refine BrG.neg (by omega) ?_) | refine Chk.mk (ptr_ok tblOk rfl rfl) ?_)
    exact ⟨rfl, L, hF, hS⟩
  · have hok' : okLens ps = true := by simpa using hok
    rw [hok', if_pos rfl, if_pos rfl, if_pos rfl]
    have hsl := sealB_len ps
    generalize sealB ps = sb at hsl ⊢
    repeat (first | refine SemW.run tblOk ?_ | refine IntG.nw (by omega) ?_ | refine IntG.nu8 (by omega) ?_ | refine IntG.nu32 (by omega) ?_ | refine IntG.nu64 (by omega) ?_ | refine IntG.wr' rfl ?_ | refine Chk.mk (by omega) ?_ | (refine BrG.id ?_; first | with_reducible refine BrG.t ?_ | with_reducible refine BrG.f ?_ | with_reducible refine BrG.notG ?_ | with_reducible refine BrG.nn ?_ | with_reducible refine BrG.ns ?_ | refine BrG.pos (by omega) ?_ | refine BrG.neg (by omega) ?_) | refine Chk.mk (ptr_ok tblOk rfl rfl) ?_)
    refine (Delete_spec hF hS.holds logN (by simp [fsmT]; omega) (by simp [fsmT]; omega)).mono ?_
    rw [deleteM_calm]
    rintro _ w2 ⟨rfl, L1, hF1, hS'⟩
    have hS := hS.call hS'
    have key : ∃ e k1, (match o with | none => ((5 : Int), fsmT none k) | some _ => (0, fsmT none (k + 1))) = (e, fsmT none k1) ∧ (e = 0 ∨ e = 5) ∧ (if o.isSome = true then k + 3 else k + 2) = k1 + 2 := by
      cases o with
      | none => exact ⟨_, _, rfl, .inr rfl, rfl⟩
      | some x => exact ⟨_, _, rfl, .inl rfl, rfl⟩
    obtain ⟨e, k1, hy, he, hk1⟩ := key
    rw [hy] at hF1 ⊢
    rw [hk1]
    have hk2 : k1 + 2 ≤ 9223372036854775807 := by rw [← hk1]; split <;> omega
    rcases he with rfl | rfl
    all_goals (
      repeat (first | refine SemW.run tblOk ?_ | refine IntG.nw (by omega) ?_ | refine IntG.nu8 (by omega) ?_ | refine IntG.nu32 (by omega) ?_ | refine IntG.nu64 (by omega) ?_ | refine IntG.wr' rfl ?_ | refine Chk.mk (by omega) ?_ | (refine BrG.id ?_; first | with_reducible refine BrG.t ?_ | with_reducible refine BrG.f ?_ | with_reducible refine BrG.notG ?_ | with_reducible refine BrG.nn ?_ | with_reducible refine BrG.ns ?_ | refine BrG.pos (by omega) ?_ | refine BrG.neg (by omega) ?_) | refine Chk.mk (ptr_ok tblOk rfl rfl) ?_)
      refine hS.al ?_
      intro b2 w3 _ hS
      repeat (first | refine SemW.run tblOk ?_ | refine IntG.nw (by omega) ?_ | refine IntG.nu8 (by omega) ?_ | refine IntG.nu32 (by omega) ?_ | refine IntG.nu64 (by omega) ?_ | refine IntG.wr' rfl ?_ | refine Chk.mk (by omega) ?_ | (refine BrG.id ?_; first | with_reducible refine BrG.t ?_ | with_reducible refine BrG.f ?_ | with_reducible refine BrG.notG ?_ | with_reducible refine BrG.nn ?_ | with_reducible refine BrG.ns ?_ | refine BrG.pos (by omega) ?_ | refine BrG.neg (by omega) ?_) | refine Chk.mk (ptr_ok tblOk rfl rfl) ?_)
      refine (Append_spec hF1 (hS.part (L := L1)) logN (ps := [sb]) (hS.arr (b := b2) (nodup_new hS)) (by simp) (by simp) (by rw [fget_calm]; simp [sumLen] at *; omega) (by simp [fsmT]; omega) (by simp [fsmT]; omega)).mono ?_
      rw [appendM_calm0]
      rintro _ w4 ⟨rfl, L2, hF2, hS'⟩
      have hS := (hS.call (L := L1) hS').sub (List.sublist_cons_self _ _)
      repeat (first | refine SemW.run tblOk ?_ | refine IntG.nw (by omega) ?_ | refine IntG.nu8 (by omega) ?_ | refine IntG.nu32 (by omega) ?_ | refine IntG.nu64 (by omega) ?_ | refine IntG.wr' rfl ?_ | refine Chk.mk (by omega) ?_ | (refine BrG.id ?_; first | with_reducible refine BrG.t ?_ | with_reducible refine BrG.f ?_ | with_reducible refine BrG.notG ?_ | with_reducible refine BrG.nn ?_ | with_reducible refine BrG.ns ?_ | refine BrG.pos (by omega) ?_ | refine BrG.neg (by omega) ?_) | refine Chk.mk (ptr_ok tblOk rfl rfl) ?_)
      refine (Sync_spec hF2 hS.holds logN (by simp; omega) (by simp; omega)).mono ?_
      rw [syncM_calm0]
      rintro _ w5 ⟨rfl, L3, hF3, hS'⟩
      have hS := hS.call hS'
      repeat (first | refine SemW.run tblOk ?_ | refine IntG.nw (by omega) ?_ | refine IntG.nu8 (by omega) ?_ | refine IntG.nu32 (by omega) ?_ | refine IntG.nu64 (by omega) ?_ | refine IntG.wr' rfl ?_ | refine Chk.mk (by omega) ?_ | (refine BrG.id ?_; first | with_reducible refine BrG.t ?_ | with_reducible refine BrG.f ?_ | with_reducible refine BrG.notG ?_ | with_reducible refine BrG.nn ?_ | with_reducible refine BrG.ns ?_ | refine BrG.pos (by omega) ?_ | refine BrG.neg (by omega) ?_) | refine Chk.mk (ptr_ok tblOk rfl rfl) ?_)
      exact ⟨rfl, L3, hF3, hS⟩)
end Go.Proofs.Ytnmmiiffeenjbaa
