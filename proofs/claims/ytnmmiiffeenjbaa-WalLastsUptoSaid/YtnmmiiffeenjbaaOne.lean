/- A calm file system with one name; tarmaclaw04.lives. -/
import Derived.Test.YtnmmiiffeenjbaaCrash
import Derived.Test.YtnmmiiffeenjbaaDel
namespace Go.Proofs.Ytnmmiiffeenjbaa
open Go Go.Eng Go.Proofs

def oneM (nm : Bytes) (o : Option (Bytes × Nat)) (k : Nat) : FSm := ⟨match o with | none => [] | some x => [(nm, x)], [], k, k, false⟩
theorem appendM_one (nm : Bytes) (hn : named nm = true) (o : Option (Bytes × Nat)) (k : Nat) (ps : List Bytes) : appendM (oneM nm o k) nm ps = (0, oneM nm (some ((o.getD ([], 0)).1 ++ ps.flatten, (o.getD ([], 0)).2)) (k + 1)) := by
  cases o <;> simp [appendM, oneM, hn, fateOf, kget, acted, kput, fget]
theorem syncM_one (nm : Bytes) (x : Bytes × Nat) (k : Nat) : syncM (oneM nm (some x) k) nm = (0, oneM nm (some (x.1, x.1.length)) (k + 1)) := by
  simp [syncM, findM, oneM, fateOf, kget, acted, kput, fget]
theorem findM_one (nm : Bytes) (o : Option (Bytes × Nat)) (k : Nat) : findM (oneM nm o k) nm = (o.getD ([], 0), if o.isSome then 0 else 5) := by
  cases o <;> simp [findM, oneM, fget, kget]

theorem Append_one {w : World} {b : Nat} {nm : Bytes} {o : Option (Bytes × Nat)} {k : Nat} {L : Heap} (hF : FSo b (oneM nm o k) L) (hh : Holds L w) (hn : named nm = true) {a : Option Addr} {cap : Nat} {ps : List Bytes} (ha : Arr w (keys L) a (ps.map Str))
    (hc : ps.length ≤ cap) (hcc : cap ≤ 140737488355328) (hlen : sumLen ps + (o.getD ([], 0)).1.length ≤ 140737488355328) (h1 : k + 1 ≤ 9223372036854775807) :
    Cl Try.prog f_vfs_FS_Append [ptr b, Str nm, .slice a ps.length cap] w fun v w' => v = .int .i64 0 ∧ ∃ L', FSo b (oneM nm (some ((o.getD ([], 0)).1 ++ ps.flatten, (o.getD ([], 0)).2)) (k + 1)) L' ∧ St w (keys L) L' w' := by
  refine (Append_spec hF hh nm ha hc hcc ?_ h1 h1).mono ?_
  · cases o <;> simpa [fget, oneM, kget] using hlen
  · rw [appendM_one nm hn]; exact fun v w' h => h
theorem Sync_one {w : World} {b : Nat} {nm : Bytes} {x : Bytes × Nat} {k : Nat} {L : Heap} (hF : FSo b (oneM nm (some x) k) L) (hh : Holds L w) (h1 : k + 1 ≤ 9223372036854775807) :
    Cl Try.prog f_vfs_FS_Sync [ptr b, Str nm] w fun v w' => v = .int .i64 0 ∧ ∃ L', FSo b (oneM nm (some (x.1, x.1.length)) (k + 1)) L' ∧ St w (keys L) L' w' := by
  refine (Sync_spec hF hh nm h1 h1).mono ?_
  rw [syncM_one]; exact fun v w' h => h
theorem Read_one {w : World} {b : Nat} {nm : Bytes} {o : Option (Bytes × Nat)} {k : Nat} {L : Heap} (hF : FSo b (oneM nm o k) L) (hh : Holds L w) :
    Cl Try.prog f_vfs_FS_Read [ptr b, Str nm] w fun v w' => v = .tuple ⟨[Str (o.getD ([], 0)).1, .int .i64 (if o.isSome then 0 else 5)]⟩ ∧ St w (keys L) L w' := by
  refine (Read_spec hF hh nm).mono ?_
  rw [findM_one]; exact fun v w' h => h
theorem Read_some {w : World} {b : Nat} {nm : Bytes} {t : Bytes} {s : Nat} {k : Nat} {L : Heap} (hF : FSo b (oneM nm (some (t, s)) k) L) (hh : Holds L w) :
    Cl Try.prog f_vfs_FS_Read [ptr b, Str nm] w fun v w' => v = .tuple ⟨[Str t, .int .i64 0]⟩ ∧ St w (keys L) L w' := Read_one hF hh
theorem Read_none {w : World} {b : Nat} {nm : Bytes} {k : Nat} {L : Heap} (hF : FSo b (oneM nm none k) L) (hh : Holds L w) :
    Cl Try.prog f_vfs_FS_Read [ptr b, Str nm] w fun v w' => v = .tuple ⟨[Str [], .int .i64 5]⟩ ∧ St w (keys L) L w' := Read_one hF hh
theorem Acts_one {w : World} {b : Nat} {nm : Bytes} {o : Option (Bytes × Nat)} {k : Nat} {L : Heap} (hF : FSo b (oneM nm o k) L) (hh : Holds L w) : Cl Try.prog f_vfs_power_Acts [ptr b] w fun v w' => v = .int .i64 k ∧ St w (keys L) L w' := Acts_spec hF hh
theorem Down_one {w : World} {b : Nat} {nm : Bytes} {o : Option (Bytes × Nat)} {k : Nat} {L : Heap} (hF : FSo b (oneM nm o k) L) (hh : Holds L w) : Cl Try.prog f_vfs_power_Down [ptr b] w fun v w' => v = .bool false ∧ St w (keys L) L w' := Down_spec hF hh
theorem Crash_one {w : World} {b : Nat} {nm : Bytes} {o : Option (Bytes × Nat)} {k : Nat} {L : Heap} (hF : FSo b (oneM nm o k) L) (hh : Holds L w) (hn : named nm = true) {a : Option Addr} {cap : Nat} {cuts : List Int} (ha : Arr w (keys L) a (cuts.map intV)) (hcl : cuts.length ≤ 1099511627776)
    (hsy : (o.getD ([], 0)).2 ≤ (o.getD ([], 0)).1.length) (htl : (o.getD ([], 0)).1.length ≤ 1099511627776) :
    Cl Try.prog f_vfs_FS_Crash [ptr b, .slice a cuts.length cap] w fun v w' => ∃ (g : Nat) (Lg : Heap), v = ptr g ∧ FSo g (oneM nm (o.map fun x => cutFile x (keepOf x cuts 0)) 0) Lg ∧ St w (keys L) (Lg ++ L) w' := by
  have hf : ∀ n, fileOf (oneM nm o k).files n = if n = nm then o.getD ([], 0) else ([], 0) := by
    intro n
    cases o <;> simp [fileOf, oneM, kget]
    split <;> rfl
  have hnl : nm.length ≤ 40 := by simp [named] at hn; exact hn.2
  have hmx : 40 ≤ maxLen := by decide
  refine (Crash_spec hF hh ha hcl ?_ ?_ ?_ ?_).mono ?_
  · cases o <;> simp [oneM]
  · intro x hx
    cases o <;> simp [oneM] at hx
    subst hx; show nm.length ≤ maxLen; omega
  · intro n; rw [hf]; split
    · exact hsy
    · simp
  · intro n; rw [hf]; split
    · exact htl
    · simp
  · rintro v w' ⟨ns, g, Lg, hp, rfl, hg, hst⟩
    refine ⟨g, Lg, rfl, ?_, hst⟩
    cases o with
    | none =>
      have : ns = [] := by simpa [oneM] using hp
      subst this
      exact hg
    | some x =>
      have : ns = [nm] := by simpa [oneM] using hp
      subst this
      have e : crashF (oneM nm (some x) k).files [nm] cuts [nm].length = [(nm, cutFile x (keepOf x cuts 0))] := by
        simp [crashF, fileOf, oneM, kget, kput]
      rw [e] at hg
      exact hg

abbrev nA : Bytes := [97]
set_option maxHeartbeats 2000000 in
set_option maxRecDepth 4000 in
theorem lives4_spec {w : World} : Cl Try.prog f_tarmaclaw04_lives [] w fun v w' => v = .bool true ∧ St w [] [] w' := by
  have hS := St.start w
  refine en_tarmaclaw04_lives rfl ?_
  repeat (first | refine SemW.run tblOk ?_ | refine IntG.nw (by omega) ?_ | refine IntG.nu8 (by omega) ?_ | refine IntG.nu32 (by omega) ?_ | refine IntG.nu64 (by omega) ?_ | refine IntG.wr' rfl ?_ | refine Chk.mk (by omega) ?_ | (refine BrG.id ?_; first | with_reducible refine BrG.t ?_ | with_reducible refine BrG.f ?_ | with_reducible refine BrG.notG ?_ | with_reducible refine BrG.nn ?_ | with_reducible refine BrG.ns ?_ | refine BrG.pos (by omega) ?_ | refine BrG.neg (by omega) ?_) | refine Chk.mk (ptr_ok tblOk rfl rfl) ?_)
  refine New_spec.mono ?_
  rintro _ w1 ⟨f, L, rfl, hf, hF, hS'⟩
  have hS := hS.callNew hS'
  rw [List.append_nil] at hS
  have hF : FSo f (oneM nA none 0) L := hF
  repeat (first | refine SemW.run tblOk ?_ | refine IntG.nw (by omega) ?_ | refine IntG.nu8 (by omega) ?_ | refine IntG.nu32 (by omega) ?_ | refine IntG.nu64 (by omega) ?_ | refine IntG.wr' rfl ?_ | refine Chk.mk (by omega) ?_ | (refine BrG.id ?_; first | with_reducible refine BrG.t ?_ | with_reducible refine BrG.f ?_ | with_reducible refine BrG.notG ?_ | with_reducible refine BrG.nn ?_ | with_reducible refine BrG.ns ?_ | refine BrG.pos (by omega) ?_ | refine BrG.neg (by omega) ?_) | refine Chk.mk (ptr_ok tblOk rfl rfl) ?_)
  refine hS.al ?_
  intro r1 w2 _ hS
  repeat (first | refine SemW.run tblOk ?_ | refine IntG.nw (by omega) ?_ | refine IntG.nu8 (by omega) ?_ | refine IntG.nu32 (by omega) ?_ | refine IntG.nu64 (by omega) ?_ | refine IntG.wr' rfl ?_ | refine Chk.mk (by omega) ?_ | (refine BrG.id ?_; first | with_reducible refine BrG.t ?_ | with_reducible refine BrG.f ?_ | with_reducible refine BrG.notG ?_ | with_reducible refine BrG.nn ?_ | with_reducible refine BrG.ns ?_ | refine BrG.pos (by omega) ?_ | refine BrG.neg (by omega) ?_) | refine Chk.mk (ptr_ok tblOk rfl rfl) ?_)
  refine (Append_one hF (hS.part (L := L)) rfl (ps := [[120], [121]]) (hS.arr (b := r1) (nodup_new hS)) (by simp) (by simp) (by simp [sumLen]) (by simp)).mono ?_
  rintro _ w3 ⟨rfl, L1, hF, hS'⟩
  have hS := (hS.call (L := L) hS').sub (List.sublist_cons_self _ _)
  repeat (first | refine SemW.run tblOk ?_ | refine IntG.nw (by omega) ?_ | refine IntG.nu8 (by omega) ?_ | refine IntG.nu32 (by omega) ?_ | refine IntG.nu64 (by omega) ?_ | refine IntG.wr' rfl ?_ | refine Chk.mk (by omega) ?_ | (refine BrG.id ?_; first | with_reducible refine BrG.t ?_ | with_reducible refine BrG.f ?_ | with_reducible refine BrG.notG ?_ | with_reducible refine BrG.nn ?_ | with_reducible refine BrG.ns ?_ | refine BrG.pos (by omega) ?_ | refine BrG.neg (by omega) ?_) | refine Chk.mk (ptr_ok tblOk rfl rfl) ?_)
  refine (Sync_one hF hS.holds (by simp)).mono ?_
  rintro _ w4 ⟨rfl, L2, hF, hS'⟩
  have hS := hS.call hS'
  repeat (first | refine SemW.run tblOk ?_ | refine IntG.nw (by omega) ?_ | refine IntG.nu8 (by omega) ?_ | refine IntG.nu32 (by omega) ?_ | refine IntG.nu64 (by omega) ?_ | refine IntG.wr' rfl ?_ | refine Chk.mk (by omega) ?_ | (refine BrG.id ?_; first | with_reducible refine BrG.t ?_ | with_reducible refine BrG.f ?_ | with_reducible refine BrG.notG ?_ | with_reducible refine BrG.nn ?_ | with_reducible refine BrG.ns ?_ | refine BrG.pos (by omega) ?_ | refine BrG.neg (by omega) ?_) | refine Chk.mk (ptr_ok tblOk rfl rfl) ?_)
  refine hS.al ?_
  intro r2 w5 _ hS
  repeat (first | refine SemW.run tblOk ?_ | refine IntG.nw (by omega) ?_ | refine IntG.nu8 (by omega) ?_ | refine IntG.nu32 (by omega) ?_ | refine IntG.nu64 (by omega) ?_ | refine IntG.wr' rfl ?_ | refine Chk.mk (by omega) ?_ | (refine BrG.id ?_; first | with_reducible refine BrG.t ?_ | with_reducible refine BrG.f ?_ | with_reducible refine BrG.notG ?_ | with_reducible refine BrG.nn ?_ | with_reducible refine BrG.ns ?_ | refine BrG.pos (by omega) ?_ | refine BrG.neg (by omega) ?_) | refine Chk.mk (ptr_ok tblOk rfl rfl) ?_)
  refine (Append_one hF (hS.part (L := L2)) rfl (ps := [[122]]) (hS.arr (b := r2) (nodup_new hS)) (by simp) (by simp) (by simp [sumLen]) (by simp)).mono ?_
  rintro _ w6 ⟨rfl, L3, hF, hS'⟩
  have hS := (hS.call (L := L2) hS').sub (List.sublist_cons_self _ _)
  repeat (first | refine SemW.run tblOk ?_ | refine IntG.nw (by omega) ?_ | refine IntG.nu8 (by omega) ?_ | refine IntG.nu32 (by omega) ?_ | refine IntG.nu64 (by omega) ?_ | refine IntG.wr' rfl ?_ | refine Chk.mk (by omega) ?_ | (refine BrG.id ?_; first | with_reducible refine BrG.t ?_ | with_reducible refine BrG.f ?_ | with_reducible refine BrG.notG ?_ | with_reducible refine BrG.nn ?_ | with_reducible refine BrG.ns ?_ | refine BrG.pos (by omega) ?_ | refine BrG.neg (by omega) ?_) | refine Chk.mk (ptr_ok tblOk rfl rfl) ?_)
  refine hS.al ?_
  intro r3 w7 _ hS
  repeat (first | refine SemW.run tblOk ?_ | refine IntG.nw (by omega) ?_ | refine IntG.nu8 (by omega) ?_ | refine IntG.nu32 (by omega) ?_ | refine IntG.nu64 (by omega) ?_ | refine IntG.wr' rfl ?_ | refine Chk.mk (by omega) ?_ | (refine BrG.id ?_; first | with_reducible refine BrG.t ?_ | with_reducible refine BrG.f ?_ | with_reducible refine BrG.notG ?_ | with_reducible refine BrG.nn ?_ | with_reducible refine BrG.ns ?_ | refine BrG.pos (by omega) ?_ | refine BrG.neg (by omega) ?_) | refine Chk.mk (ptr_ok tblOk rfl rfl) ?_)
  refine (Crash_one hF (hS.part (L := L3)) rfl (cuts := [0]) (hS.arr (b := r3) (nodup_new hS)) (by simp) (by simp) (by simp)).mono ?_
  rintro _ w8 ⟨g, Lg, rfl, hG, hS'⟩
  have hS := (hS.call (L := L3) hS').sub (List.sublist_cons_self _ _)
  repeat (first | refine SemW.run tblOk ?_ | refine IntG.nw (by omega) ?_ | refine IntG.nu8 (by omega) ?_ | refine IntG.nu32 (by omega) ?_ | refine IntG.nu64 (by omega) ?_ | refine IntG.wr' rfl ?_ | refine Chk.mk (by omega) ?_ | (refine BrG.id ?_; first | with_reducible refine BrG.t ?_ | with_reducible refine BrG.f ?_ | with_reducible refine BrG.notG ?_ | with_reducible refine BrG.nn ?_ | with_reducible refine BrG.ns ?_ | refine BrG.pos (by omega) ?_ | refine BrG.neg (by omega) ?_) | refine Chk.mk (ptr_ok tblOk rfl rfl) ?_)
  have hG : FSo g (oneM nA (some ([120, 121], 2)) 0) Lg := hG
  refine (Read_some hG (hS.part (L := Lg))).mono ?_
  rintro _ w9 ⟨rfl, hS'⟩
  have hS := hS.call (L := Lg) hS'
  repeat (first | refine SemW.run tblOk ?_ | refine IntG.nw (by omega) ?_ | refine IntG.nu8 (by omega) ?_ | refine IntG.nu32 (by omega) ?_ | refine IntG.nu64 (by omega) ?_ | refine IntG.wr' rfl ?_ | refine Chk.mk (by omega) ?_ | (refine BrG.id ?_; first | with_reducible refine BrG.t ?_ | with_reducible refine BrG.f ?_ | with_reducible refine BrG.notG ?_ | with_reducible refine BrG.nn ?_ | with_reducible refine BrG.ns ?_ | refine BrG.pos (by omega) ?_ | refine BrG.neg (by omega) ?_) | refine Chk.mk (ptr_ok tblOk rfl rfl) ?_)
  refine BrG.pos rfl ?_
  repeat (first | refine SemW.run tblOk ?_ | refine IntG.nw (by omega) ?_ | refine IntG.nu8 (by omega) ?_ | refine IntG.nu32 (by omega) ?_ | refine IntG.nu64 (by omega) ?_ | refine IntG.wr' rfl ?_ | refine Chk.mk (by omega) ?_ | (refine BrG.id ?_; first | with_reducible refine BrG.t ?_ | with_reducible refine BrG.f ?_ | with_reducible refine BrG.notG ?_ | with_reducible refine BrG.nn ?_ | with_reducible refine BrG.ns ?_ | refine BrG.pos (by omega) ?_ | refine BrG.neg (by omega) ?_) | refine Chk.mk (ptr_ok tblOk rfl rfl) ?_)
  refine (Acts_one hF (hS.part (L := L3))).mono ?_
  rintro _ w10 ⟨rfl, hS'⟩
  have hS := hS.call (L := L3) hS'
  repeat (first | refine SemW.run tblOk ?_ | refine IntG.nw (by omega) ?_ | refine IntG.nu8 (by omega) ?_ | refine IntG.nu32 (by omega) ?_ | refine IntG.nu64 (by omega) ?_ | refine IntG.wr' rfl ?_ | refine Chk.mk (by omega) ?_ | (refine BrG.id ?_; first | with_reducible refine BrG.t ?_ | with_reducible refine BrG.f ?_ | with_reducible refine BrG.notG ?_ | with_reducible refine BrG.nn ?_ | with_reducible refine BrG.ns ?_ | refine BrG.pos (by omega) ?_ | refine BrG.neg (by omega) ?_) | refine Chk.mk (ptr_ok tblOk rfl rfl) ?_)
  refine (Acts_one hG (hS.part (L := Lg))).mono ?_
  rintro _ w11 ⟨rfl, hS'⟩
  have hS := hS.call (L := Lg) hS'
  repeat (first | refine SemW.run tblOk ?_ | refine IntG.nw (by omega) ?_ | refine IntG.nu8 (by omega) ?_ | refine IntG.nu32 (by omega) ?_ | refine IntG.nu64 (by omega) ?_ | refine IntG.wr' rfl ?_ | refine Chk.mk (by omega) ?_ | (refine BrG.id ?_; first | with_reducible refine BrG.t ?_ | with_reducible refine BrG.f ?_ | with_reducible refine BrG.notG ?_ | with_reducible refine BrG.nn ?_ | with_reducible refine BrG.ns ?_ | refine BrG.pos (by omega) ?_ | refine BrG.neg (by omega) ?_) | refine Chk.mk (ptr_ok tblOk rfl rfl) ?_)
  exact ⟨rfl, hS.nil⟩
end Go.Proofs.Ytnmmiiffeenjbaa
