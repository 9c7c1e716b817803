/- vfs.Rename, List; tarmaclaw04.VfsMoves. -/
import Derived.Test.YtnmmiiffeenjbaaKeeps
namespace Go.Proofs.Ytnmmiiffeenjbaa
open Go Go.Eng Go.Proofs

set_option maxHeartbeats 1000000 in
theorem Rename_ok {w : World} {b : Nat} {m : FSm} {L : Heap} (hF : FSo b m L) (hh : Holds L w) (na nb : Bytes) {x : Bytes × Nat} (hoff : m.off = false) (hnb : named nb = true) (hx : findM m na = (x, 0)) (hfa : fateOf m = 0)
    (h1 : m.armed + 1 ≤ 9223372036854775807) (h2 : m.acts + 1 ≤ 9223372036854775807) :
    Cl Try.prog f_vfs_FS_Rename [ptr b, Str na, Str nb] w fun v w' => v = .int .i64 0 ∧ ∃ L', FSo b { acted m with files := kput nb x (kdel na m.files) } L' ∧ St w (keys L) L' w' := by
  have hS := St.enter hh
  have haoff : (acted m).off = false := by unfold acted; rw [hfa]; rfl
  refine en_vfs_FS_Rename rfl ?_
  have hF0 := hF
  have hS0 := hS
  have hex : ∃ mf es c, ∃ (_ : MapC Str fileV es c m.files), ∃ ft Lf, ∃ (_ : FateMap ft m.fates Lf), L = (b, .cells ⟨[.map ft, .int .i64 m.armed, .int .i64 m.acts, .bool m.off, .map (some mf)]⟩ T_vfs_FS (0, 0)) :: (mf, .map es c) :: Lf := by
    obtain ⟨mf, es, c, hes, ft, Lf, hf⟩ := hF; exact ⟨mf, es, c, hes, ft, Lf, hf, rfl⟩
  obtain ⟨mf, es, c, hes, ft, Lf, hf, hL⟩ := hex
  have hSL := hS
  rw [hL, hoff] at hSL
  have hS := hSL
  repeat (first | refine SemW.run tblOk ?_ | refine IntG.nw (by omega) ?_ | refine IntG.nu8 (by omega) ?_ | refine IntG.nu32 (by omega) ?_ | refine IntG.nu64 (by omega) ?_ | refine IntG.wr' rfl ?_ | refine Chk.mk (by omega) ?_ | (refine BrG.id ?_; first | with_reducible refine BrG.t ?_ | with_reducible refine BrG.f ?_ | with_reducible refine BrG.notG ?_ | with_reducible refine BrG.nn ?_ | with_reducible refine BrG.ns ?_ | refine BrG.pos (by omega) ?_ | refine BrG.neg (by omega) ?_) | refine Chk.mk (ptr_ok tblOk rfl rfl) ?_ | refine hS.ld rfl ?_ | refine hS.ldn rfl ?_ | (refine hS.st rfl rfl ?_; intro _ hS))
  have hS := hS0
  refine (named_spec nb).mono ?_
  rintro _ w1 ⟨rfl, hS'⟩
  have hS := hS.call0 hS'
  rw [hnb]
  repeat (first | refine SemW.run tblOk ?_ | refine IntG.nw (by omega) ?_ | refine IntG.nu8 (by omega) ?_ | refine IntG.nu32 (by omega) ?_ | refine IntG.nu64 (by omega) ?_ | refine IntG.wr' rfl ?_ | refine Chk.mk (by omega) ?_ | (refine BrG.id ?_; first | with_reducible refine BrG.t ?_ | with_reducible refine BrG.f ?_ | with_reducible refine BrG.notG ?_ | with_reducible refine BrG.nn ?_ | with_reducible refine BrG.ns ?_ | refine BrG.pos (by omega) ?_ | refine BrG.neg (by omega) ?_) | refine Chk.mk (ptr_ok tblOk rfl rfl) ?_)
  refine (find_spec hF0 hS.holds na).mono ?_
  rw [hx]
  rintro _ w2 ⟨rfl, hS'⟩
  have hS := hS.call hS'
  repeat (first | refine SemW.run tblOk ?_ | refine IntG.nw (by omega) ?_ | refine IntG.nu8 (by omega) ?_ | refine IntG.nu32 (by omega) ?_ | refine IntG.nu64 (by omega) ?_ | refine IntG.wr' rfl ?_ | refine Chk.mk (by omega) ?_ | (refine BrG.id ?_; first | with_reducible refine BrG.t ?_ | with_reducible refine BrG.f ?_ | with_reducible refine BrG.notG ?_ | with_reducible refine BrG.nn ?_ | with_reducible refine BrG.ns ?_ | refine BrG.pos (by omega) ?_ | refine BrG.neg (by omega) ?_) | refine Chk.mk (ptr_ok tblOk rfl rfl) ?_)
  refine hS.al ?_
  intro r w3 _ hS
  repeat (first | refine SemW.run tblOk ?_ | refine IntG.nw (by omega) ?_ | refine IntG.nu8 (by omega) ?_ | refine IntG.nu32 (by omega) ?_ | refine IntG.nu64 (by omega) ?_ | refine IntG.wr' rfl ?_ | refine Chk.mk (by omega) ?_ | (refine BrG.id ?_; first | with_reducible refine BrG.t ?_ | with_reducible refine BrG.f ?_ | with_reducible refine BrG.notG ?_ | with_reducible refine BrG.nn ?_ | with_reducible refine BrG.ns ?_ | refine BrG.pos (by omega) ?_ | refine BrG.neg (by omega) ?_) | refine Chk.mk (ptr_ok tblOk rfl rfl) ?_ | refine hS.ld rfl ?_ | refine hS.ldn rfl ?_ | (refine hS.st rfl rfl ?_; intro _ hS))
  refine (act_spec hF0 (hS.part (L := L)) h1 h2).mono ?_
  rw [hfa]
  rintro _ w4 ⟨rfl, L1, hF1, hS'⟩
  have hS := hS.call (L := L) hS'
  generalize keys L = T0 at hS ⊢
  obtain ⟨mf1, es1, c1, hes1, ft1, Lf1, hf1⟩ := hF1
  rw [haoff] at hS
  repeat (first | refine SemW.run tblOk ?_ | refine IntG.nw (by omega) ?_ | refine IntG.nu8 (by omega) ?_ | refine IntG.nu32 (by omega) ?_ | refine IntG.nu64 (by omega) ?_ | refine IntG.wr' rfl ?_ | refine Chk.mk (by omega) ?_ | (refine BrG.id ?_; first | with_reducible refine BrG.t ?_ | with_reducible refine BrG.f ?_ | with_reducible refine BrG.notG ?_ | with_reducible refine BrG.nn ?_ | with_reducible refine BrG.ns ?_ | refine BrG.pos (by omega) ?_ | refine BrG.neg (by omega) ?_) | refine Chk.mk (ptr_ok tblOk rfl rfl) ?_ | refine hS.ld rfl ?_ | refine hS.ldn rfl ?_ | (refine hS.st rfl rfl ?_; intro _ hS))
  refine St.mapDel tblOk KEnc.str rfl rfl und_str hS hes1 ?_
  intro es2 c2 w5 hes2 hS
  repeat (first | refine SemW.run tblOk ?_ | refine IntG.nw (by omega) ?_ | refine IntG.nu8 (by omega) ?_ | refine IntG.nu32 (by omega) ?_ | refine IntG.nu64 (by omega) ?_ | refine IntG.wr' rfl ?_ | refine Chk.mk (by omega) ?_ | (refine BrG.id ?_; first | with_reducible refine BrG.t ?_ | with_reducible refine BrG.f ?_ | with_reducible refine BrG.notG ?_ | with_reducible refine BrG.nn ?_ | with_reducible refine BrG.ns ?_ | refine BrG.pos (by omega) ?_ | refine BrG.neg (by omega) ?_) | refine Chk.mk (ptr_ok tblOk rfl rfl) ?_ | refine hS.ld rfl ?_ | refine hS.ldn rfl ?_ | (refine hS.st rfl rfl ?_; intro _ hS))
  refine SemW.draw tblOk mixed (fun w' => St w T0 ((r, .cells ⟨[Str x.1, .int .i64 x.2]⟩ T_vfs_file (0, 0)) :: (b, .cells ⟨[.map ft1, .int .i64 (acted m).armed, .int .i64 (acted m).acts, .bool false, .map (some mf1)]⟩ T_vfs_FS (0, 0)) :: (mf1, .map es2 c2) :: Lf1) w')
    [6] [0, 1, 2, 3, 4, 5, 6] (by kernel_rfl) hS.drew ?_
  have hS := hS.drew
  repeat (first | refine SemW.run tblOk ?_ | refine IntG.nw (by omega) ?_ | refine IntG.nu8 (by omega) ?_ | refine IntG.nu32 (by omega) ?_ | refine IntG.nu64 (by omega) ?_ | refine IntG.wr' rfl ?_ | refine Chk.mk (by omega) ?_ | (refine BrG.id ?_; first | with_reducible refine BrG.t ?_ | with_reducible refine BrG.f ?_ | with_reducible refine BrG.notG ?_ | with_reducible refine BrG.nn ?_ | with_reducible refine BrG.ns ?_ | refine BrG.pos (by omega) ?_ | refine BrG.neg (by omega) ?_) | refine Chk.mk (ptr_ok tblOk rfl rfl) ?_ | refine hS.ldC rfl ?_ | refine hS.ldnC rfl ?_)
  refine St.mapSet tblOk KEnc.str rfl rfl und_str hS (v := x) hes2 ?_
  intro es3 c3 w6 hes3 hS
  have hS := hS.sub (List.sublist_cons_self _ _)
  rw [← haoff] at hS
  repeat (first | refine SemW.run tblOk ?_ | refine IntG.nw (by omega) ?_ | refine IntG.nu8 (by omega) ?_ | refine IntG.nu32 (by omega) ?_ | refine IntG.nu64 (by omega) ?_ | refine IntG.wr' rfl ?_ | refine Chk.mk (by omega) ?_ | (refine BrG.id ?_; first | with_reducible refine BrG.t ?_ | with_reducible refine BrG.f ?_ | with_reducible refine BrG.notG ?_ | with_reducible refine BrG.nn ?_ | with_reducible refine BrG.ns ?_ | refine BrG.pos (by omega) ?_ | refine BrG.neg (by omega) ?_) | refine Chk.mk (ptr_ok tblOk rfl rfl) ?_)
  have hF2 := FSo.mk (b := b) (m := { acted m with files := kput nb x (kdel na m.files) }) mf1 es3 c3 hes3 ft1 Lf1 hf1
  refine (done_spec hF2 hS.holds).mono ?_
  rintro _ w7 ⟨rfl, hS'⟩
  have hS := hS.call hS'
  repeat (first | refine SemW.run tblOk ?_ | refine IntG.nw (by omega) ?_ | refine IntG.nu8 (by omega) ?_ | refine IntG.nu32 (by omega) ?_ | refine IntG.nu64 (by omega) ?_ | refine IntG.wr' rfl ?_ | refine Chk.mk (by omega) ?_ | (refine BrG.id ?_; first | with_reducible refine BrG.t ?_ | with_reducible refine BrG.f ?_ | with_reducible refine BrG.notG ?_ | with_reducible refine BrG.nn ?_ | with_reducible refine BrG.ns ?_ | refine BrG.pos (by omega) ?_ | refine BrG.neg (by omega) ?_) | refine Chk.mk (ptr_ok tblOk rfl rfl) ?_)
  refine ⟨?_, _, hF2, hS⟩
  show Value.int .i64 (if (acted m).off then 7 else 0) = _
  rw [haoff]; rfl

theorem List_ok {w : World} {b : Nat} {m : FSm} {L : Heap} (hF : FSo b m L) (hh : Holds L w) (hoff : m.off = false) (hl : m.files.length ≤ 1099511627776) (hs : ∀ x ∈ m.files, x.1.length ≤ maxLen) :
    Cl Try.prog f_vfs_FS_List [ptr b] w fun v w' => ∃ (ns : List Bytes) (a : Option Addr) (cap : Nat) (Lv : Heap), ns.Perm (m.files.map (·.1)) ∧ v = .tuple ⟨[.slice a ns.length cap, .int .i64 0]⟩ ∧ Vec T_string 1 a ns.length cap (ns.map Str) Lv ∧ St w (keys L) (Lv ++ L) w' := by
  have hS := St.enter hh
  refine en_vfs_FS_List rfl ?_
  have hS0 := hS
  have hex : ∃ mf es c, ∃ (_ : MapC Str fileV es c m.files), ∃ ft Lf, ∃ (_ : FateMap ft m.fates Lf), L = (b, .cells ⟨[.map ft, .int .i64 m.armed, .int .i64 m.acts, .bool m.off, .map (some mf)]⟩ T_vfs_FS (0, 0)) :: (mf, .map es c) :: Lf := by
    obtain ⟨mf, es, c, hes, ft, Lf, hf⟩ := hF; exact ⟨mf, es, c, hes, ft, Lf, hf, rfl⟩
  obtain ⟨mf, es, c, hes, ft, Lf, hf, hL⟩ := hex
  have hSL := hS
  rw [hL, hoff] at hSL
  have hS := hSL
  repeat (first | refine SemW.run tblOk ?_ | refine IntG.nw (by omega) ?_ | refine IntG.nu8 (by omega) ?_ | refine IntG.nu32 (by omega) ?_ | refine IntG.nu64 (by omega) ?_ | refine IntG.wr' rfl ?_ | refine Chk.mk (by omega) ?_ | (refine BrG.id ?_; first | with_reducible refine BrG.t ?_ | with_reducible refine BrG.f ?_ | with_reducible refine BrG.notG ?_ | with_reducible refine BrG.nn ?_ | with_reducible refine BrG.ns ?_ | refine BrG.pos (by omega) ?_ | refine BrG.neg (by omega) ?_) | refine Chk.mk (ptr_ok tblOk rfl rfl) ?_ | refine hS.ld rfl ?_ | refine hS.ldn rfl ?_ | (refine hS.st rfl rfl ?_; intro _ hS))
  have hS := hS0
  refine (names_spec hF hS.holds hl hs).mono ?_
  rintro _ w1 ⟨ns, a, cap, Lv, hp, rfl, hv, hS'⟩
  have hS := hS.call hS'
  repeat (first | refine SemW.run tblOk ?_ | refine IntG.nw (by omega) ?_ | refine IntG.nu8 (by omega) ?_ | refine IntG.nu32 (by omega) ?_ | refine IntG.nu64 (by omega) ?_ | refine IntG.wr' rfl ?_ | refine Chk.mk (by omega) ?_ | (refine BrG.id ?_; first | with_reducible refine BrG.t ?_ | with_reducible refine BrG.f ?_ | with_reducible refine BrG.notG ?_ | with_reducible refine BrG.nn ?_ | with_reducible refine BrG.ns ?_ | refine BrG.pos (by omega) ?_ | refine BrG.neg (by omega) ?_) | refine Chk.mk (ptr_ok tblOk rfl rfl) ?_)
  exact ⟨ns, a, cap, Lv, hp, rfl, hv, hS⟩

/-- A calm file system. -/
def calmM (files : List (Bytes × (Bytes × Nat))) (k : Nat) : FSm := ⟨files, [], k, k, false⟩
theorem Append_calmM {w : World} {b : Nat} {nm : Bytes} {fs : List (Bytes × (Bytes × Nat))} {k : Nat} {L : Heap} (hF : FSo b (calmM fs k) L) (hh : Holds L w) (hn : named nm = true) {a : Option Addr} {cap : Nat} {s : Bytes} (ha : Arr w (keys L) a [Str s])
    (hc : 1 ≤ cap) (hcc : cap ≤ 140737488355328) (hlen : s.length + (fileOf fs nm).1.length ≤ 140737488355328) (h1 : k + 1 ≤ 9223372036854775807) (fs' : List (Bytes × (Bytes × Nat))) (hfs : fs' = kput nm ((fileOf fs nm).1 ++ s, (fileOf fs nm).2) fs) :
    Cl Try.prog f_vfs_FS_Append [ptr b, Str nm, .slice a 1 cap] w fun v w' => v = .int .i64 0 ∧ ∃ L', FSo b (calmM fs' (k + 1)) L' ∧ St w (keys L) L' w' := by
  refine (Append_spec hF hh nm (ps := [s]) ha hc hcc ?_ h1 h1).mono ?_
  · have : sumLen [s] = s.length := by simp [sumLen]
    rw [this]; exact hlen
  · have e : appendM (calmM fs k) nm [s] = (0, calmM fs' (k + 1)) := by
      subst hfs
      simp [appendM, calmM, hn, fateOf, kget, acted, fget, fileOf]
    rw [e]; exact fun v w' h => h
theorem Sync_calmM {w : World} {b : Nat} {nm : Bytes} {fs : List (Bytes × (Bytes × Nat))} {k : Nat} {L : Heap} (hF : FSo b (calmM fs k) L) (hh : Holds L w) (x : Bytes × Nat) (hx : kget nm fs = some x) (h1 : k + 1 ≤ 9223372036854775807) (fs' : List (Bytes × (Bytes × Nat))) (hfs : fs' = kput nm (x.1, x.1.length) fs) :
    Cl Try.prog f_vfs_FS_Sync [ptr b, Str nm] w fun v w' => v = .int .i64 0 ∧ ∃ L', FSo b (calmM fs' (k + 1)) L' ∧ St w (keys L) L' w' := by
  refine (Sync_spec hF hh nm h1 h1).mono ?_
  have e : syncM (calmM fs k) nm = (0, calmM fs' (k + 1)) := by
    subst hfs
    simp [syncM, findM, calmM, fateOf, kget, acted, fget, hx]
  rw [e]; exact fun v w' h => h
theorem Read_calmM {w : World} {b : Nat} {nm : Bytes} {fs : List (Bytes × (Bytes × Nat))} {k : Nat} {L : Heap} (hF : FSo b (calmM fs k) L) (hh : Holds L w) (x : Bytes × Nat) (hx : kget nm fs = some x) :
    Cl Try.prog f_vfs_FS_Read [ptr b, Str nm] w fun v w' => v = .tuple ⟨[Str x.1, .int .i64 0]⟩ ∧ St w (keys L) L w' := by
  refine (Read_spec hF hh nm).mono ?_
  have e : findM (calmM fs k) nm = (x, 0) := by simp [findM, calmM, fget, hx]
  rw [e]; exact fun v w' h => h
theorem Read_goneM {w : World} {b : Nat} {nm : Bytes} {fs : List (Bytes × (Bytes × Nat))} {k : Nat} {L : Heap} (hF : FSo b (calmM fs k) L) (hh : Holds L w) (hx : kget nm fs = none) :
    Cl Try.prog f_vfs_FS_Read [ptr b, Str nm] w fun v w' => v = .tuple ⟨[Str [], .int .i64 5]⟩ ∧ St w (keys L) L w' := by
  refine (Read_spec hF hh nm).mono ?_
  have e : findM (calmM fs k) nm = (([], 0), 5) := by simp [findM, calmM, fget, hx]
  rw [e]; exact fun v w' h => h
theorem Delete_calmM {w : World} {b : Nat} {nm : Bytes} {fs : List (Bytes × (Bytes × Nat))} {k : Nat} {L : Heap} (hF : FSo b (calmM fs k) L) (hh : Holds L w) (x : Bytes × Nat) (hx : kget nm fs = some x) (h1 : k + 1 ≤ 9223372036854775807) (fs' : List (Bytes × (Bytes × Nat))) (hfs : fs' = kdel nm fs) :
    Cl Try.prog f_vfs_FS_Delete [ptr b, Str nm] w fun v w' => v = .int .i64 0 ∧ ∃ L', FSo b (calmM fs' (k + 1)) L' ∧ St w (keys L) L' w' := by
  refine (Delete_spec hF hh nm h1 h1).mono ?_
  have e : deleteM (calmM fs k) nm = (0, calmM fs' (k + 1)) := by
    subst hfs
    simp [deleteM, findM, calmM, fateOf, kget, acted, fget, hx]
  rw [e]; exact fun v w' h => h

abbrev nB : Bytes := [98]
abbrev nC : Bytes := [99]
set_option maxHeartbeats 2000000 in
set_option maxRecDepth 4000 in
theorem VfsMoves_spec {w : World} {s t u : Bytes} (hb : s.length + t.length + u.length ≤ 1048576) :
    Cl Try.prog f_tarmaclaw04_VfsMoves [Str s, Str t, Str u] w fun v w' => v = .bool true ∧ St w [] [] w' := by
  have hS := St.start w
  refine en_tarmaclaw04_VfsMoves rfl ?_
  repeat (first | refine SemW.run tblOk ?_ | refine IntG.nw (by omega) ?_ | refine IntG.nu8 (by omega) ?_ | refine IntG.nu32 (by omega) ?_ | refine IntG.nu64 (by omega) ?_ | refine IntG.wr' rfl ?_ | refine Chk.mk (by omega) ?_ | (refine BrG.id ?_; first | with_reducible refine BrG.t ?_ | with_reducible refine BrG.f ?_ | with_reducible refine BrG.notG ?_ | with_reducible refine BrG.nn ?_ | with_reducible refine BrG.ns ?_ | refine BrG.pos (by omega) ?_ | refine BrG.neg (by omega) ?_) | refine Chk.mk (ptr_ok tblOk rfl rfl) ?_)
  refine lives4_spec.mono ?_
  rintro _ w1 ⟨rfl, hS'⟩
  have hS := hS.call0 hS'
  repeat (first | refine SemW.run tblOk ?_ | refine IntG.nw (by omega) ?_ | refine IntG.nu8 (by omega) ?_ | refine IntG.nu32 (by omega) ?_ | refine IntG.nu64 (by omega) ?_ | refine IntG.wr' rfl ?_ | refine Chk.mk (by omega) ?_ | (refine BrG.id ?_; first | with_reducible refine BrG.t ?_ | with_reducible refine BrG.f ?_ | with_reducible refine BrG.notG ?_ | with_reducible refine BrG.nn ?_ | with_reducible refine BrG.ns ?_ | refine BrG.pos (by omega) ?_ | refine BrG.neg (by omega) ?_) | refine Chk.mk (ptr_ok tblOk rfl rfl) ?_)
  refine New_spec.mono ?_
  rintro _ w2 ⟨f, L, rfl, hf, hF, hS'⟩
  have hS := hS.callNew hS'
  rw [List.append_nil] at hS
  have hF : FSo f (calmM [] 0) L := hF
  repeat (first | refine SemW.run tblOk ?_ | refine IntG.nw (by omega) ?_ | refine IntG.nu8 (by omega) ?_ | refine IntG.nu32 (by omega) ?_ | refine IntG.nu64 (by omega) ?_ | refine IntG.wr' rfl ?_ | refine Chk.mk (by omega) ?_ | (refine BrG.id ?_; first | with_reducible refine BrG.t ?_ | with_reducible refine BrG.f ?_ | with_reducible refine BrG.notG ?_ | with_reducible refine BrG.nn ?_ | with_reducible refine BrG.ns ?_ | refine BrG.pos (by omega) ?_ | refine BrG.neg (by omega) ?_) | refine Chk.mk (ptr_ok tblOk rfl rfl) ?_)
  refine hS.al ?_
  intro r1 w3 _ hS
  repeat (first | refine SemW.run tblOk ?_ | refine IntG.nw (by omega) ?_ | refine IntG.nu8 (by omega) ?_ | refine IntG.nu32 (by omega) ?_ | refine IntG.nu64 (by omega) ?_ | refine IntG.wr' rfl ?_ | refine Chk.mk (by omega) ?_ | (refine BrG.id ?_; first | with_reducible refine BrG.t ?_ | with_reducible refine BrG.f ?_ | with_reducible refine BrG.notG ?_ | with_reducible refine BrG.nn ?_ | with_reducible refine BrG.ns ?_ | refine BrG.pos (by omega) ?_ | refine BrG.neg (by omega) ?_) | refine Chk.mk (ptr_ok tblOk rfl rfl) ?_)
  refine (Append_calmM hF (hS.part (L := L)) rfl (s := s) (hS.arr (b := r1) (nodup_new hS)) (by simp) (by simp) (by simp [fileOf, kget]; omega) (by simp) [(nA, (s, 0))] (by simp [fileOf, kget, kput])).mono ?_
  rintro _ w4 ⟨rfl, L1, hF, hS'⟩
  have hS := (hS.call (L := L) hS').sub (List.sublist_cons_self _ _)
  repeat (first | refine SemW.run tblOk ?_ | refine IntG.nw (by omega) ?_ | refine IntG.nu8 (by omega) ?_ | refine IntG.nu32 (by omega) ?_ | refine IntG.nu64 (by omega) ?_ | refine IntG.wr' rfl ?_ | refine Chk.mk (by omega) ?_ | (refine BrG.id ?_; first | with_reducible refine BrG.t ?_ | with_reducible refine BrG.f ?_ | with_reducible refine BrG.notG ?_ | with_reducible refine BrG.nn ?_ | with_reducible refine BrG.ns ?_ | refine BrG.pos (by omega) ?_ | refine BrG.neg (by omega) ?_) | refine Chk.mk (ptr_ok tblOk rfl rfl) ?_)
  refine (Sync_calmM hF hS.holds (s, 0) (by simp [kget]) (by simp) [(nA, (s, s.length))] (by simp [kput])).mono ?_
  rintro _ w5 ⟨rfl, L2, hF, hS'⟩
  have hS := hS.call hS'
  repeat (first | refine SemW.run tblOk ?_ | refine IntG.nw (by omega) ?_ | refine IntG.nu8 (by omega) ?_ | refine IntG.nu32 (by omega) ?_ | refine IntG.nu64 (by omega) ?_ | refine IntG.wr' rfl ?_ | refine Chk.mk (by omega) ?_ | (refine BrG.id ?_; first | with_reducible refine BrG.t ?_ | with_reducible refine BrG.f ?_ | with_reducible refine BrG.notG ?_ | with_reducible refine BrG.nn ?_ | with_reducible refine BrG.ns ?_ | refine BrG.pos (by omega) ?_ | refine BrG.neg (by omega) ?_) | refine Chk.mk (ptr_ok tblOk rfl rfl) ?_)
  refine hS.al ?_
  intro r2 w6 _ hS
  repeat (first | refine SemW.run tblOk ?_ | refine IntG.nw (by omega) ?_ | refine IntG.nu8 (by omega) ?_ | refine IntG.nu32 (by omega) ?_ | refine IntG.nu64 (by omega) ?_ | refine IntG.wr' rfl ?_ | refine Chk.mk (by omega) ?_ | (refine BrG.id ?_; first | with_reducible refine BrG.t ?_ | with_reducible refine BrG.f ?_ | with_reducible refine BrG.notG ?_ | with_reducible refine BrG.nn ?_ | with_reducible refine BrG.ns ?_ | refine BrG.pos (by omega) ?_ | refine BrG.neg (by omega) ?_) | refine Chk.mk (ptr_ok tblOk rfl rfl) ?_)
  refine (Append_calmM hF (hS.part (L := L2)) rfl (s := t) (hS.arr (b := r2) (nodup_new hS)) (by simp) (by simp) (by simp [fileOf, kget]; omega) (by simp) [(nA, (s ++ t, s.length))] (by simp [fileOf, kget, kput])).mono ?_
  rintro _ w7 ⟨rfl, L3, hF, hS'⟩
  have hS := (hS.call (L := L2) hS').sub (List.sublist_cons_self _ _)
  repeat (first | refine SemW.run tblOk ?_ | refine IntG.nw (by omega) ?_ | refine IntG.nu8 (by omega) ?_ | refine IntG.nu32 (by omega) ?_ | refine IntG.nu64 (by omega) ?_ | refine IntG.wr' rfl ?_ | refine Chk.mk (by omega) ?_ | (refine BrG.id ?_; first | with_reducible refine BrG.t ?_ | with_reducible refine BrG.f ?_ | with_reducible refine BrG.notG ?_ | with_reducible refine BrG.nn ?_ | with_reducible refine BrG.ns ?_ | refine BrG.pos (by omega) ?_ | refine BrG.neg (by omega) ?_) | refine Chk.mk (ptr_ok tblOk rfl rfl) ?_)
  refine hS.al ?_
  intro r3 w8 _ hS
  repeat (first | refine SemW.run tblOk ?_ | refine IntG.nw (by omega) ?_ | refine IntG.nu8 (by omega) ?_ | refine IntG.nu32 (by omega) ?_ | refine IntG.nu64 (by omega) ?_ | refine IntG.wr' rfl ?_ | refine Chk.mk (by omega) ?_ | (refine BrG.id ?_; first | with_reducible refine BrG.t ?_ | with_reducible refine BrG.f ?_ | with_reducible refine BrG.notG ?_ | with_reducible refine BrG.nn ?_ | with_reducible refine BrG.ns ?_ | refine BrG.pos (by omega) ?_ | refine BrG.neg (by omega) ?_) | refine Chk.mk (ptr_ok tblOk rfl rfl) ?_)
  refine (Append_calmM hF (hS.part (L := L3)) rfl (s := u) (hS.arr (b := r3) (nodup_new hS)) (by simp) (by simp) (by simp [fileOf, kget]; omega) (by simp) [(nA, (s ++ t, s.length)), (nB, (u, 0))] (by simp [fileOf, kget, kput])).mono ?_
  rintro _ w9 ⟨rfl, L4, hF, hS'⟩
  have hS := (hS.call (L := L3) hS').sub (List.sublist_cons_self _ _)
  repeat (first | refine SemW.run tblOk ?_ | refine IntG.nw (by omega) ?_ | refine IntG.nu8 (by omega) ?_ | refine IntG.nu32 (by omega) ?_ | refine IntG.nu64 (by omega) ?_ | refine IntG.wr' rfl ?_ | refine Chk.mk (by omega) ?_ | (refine BrG.id ?_; first | with_reducible refine BrG.t ?_ | with_reducible refine BrG.f ?_ | with_reducible refine BrG.notG ?_ | with_reducible refine BrG.nn ?_ | with_reducible refine BrG.ns ?_ | refine BrG.pos (by omega) ?_ | refine BrG.neg (by omega) ?_) | refine Chk.mk (ptr_ok tblOk rfl rfl) ?_)
  refine hS.al ?_
  intro r4 w10 _ hS
  repeat (first | refine SemW.run tblOk ?_ | refine IntG.nw (by omega) ?_ | refine IntG.nu8 (by omega) ?_ | refine IntG.nu32 (by omega) ?_ | refine IntG.nu64 (by omega) ?_ | refine IntG.wr' rfl ?_ | refine Chk.mk (by omega) ?_ | (refine BrG.id ?_; first | with_reducible refine BrG.t ?_ | with_reducible refine BrG.f ?_ | with_reducible refine BrG.notG ?_ | with_reducible refine BrG.nn ?_ | with_reducible refine BrG.ns ?_ | refine BrG.pos (by omega) ?_ | refine BrG.neg (by omega) ?_) | refine Chk.mk (ptr_ok tblOk rfl rfl) ?_)
  refine (Append_calmM hF (hS.part (L := L4)) rfl (s := u) (hS.arr (b := r4) (nodup_new hS)) (by simp) (by simp) (by simp [fileOf, kget]; omega) (by simp) [(nA, (s ++ t, s.length)), (nB, (u, 0)), (nC, (u, 0))] (by simp [fileOf, kget, kput])).mono ?_
  rintro _ w11 ⟨rfl, L5, hF, hS'⟩
  have hS := (hS.call (L := L4) hS').sub (List.sublist_cons_self _ _)
  repeat (first | refine SemW.run tblOk ?_ | refine IntG.nw (by omega) ?_ | refine IntG.nu8 (by omega) ?_ | refine IntG.nu32 (by omega) ?_ | refine IntG.nu64 (by omega) ?_ | refine IntG.wr' rfl ?_ | refine Chk.mk (by omega) ?_ | (refine BrG.id ?_; first | with_reducible refine BrG.t ?_ | with_reducible refine BrG.f ?_ | with_reducible refine BrG.notG ?_ | with_reducible refine BrG.nn ?_ | with_reducible refine BrG.ns ?_ | refine BrG.pos (by omega) ?_ | refine BrG.neg (by omega) ?_) | refine Chk.mk (ptr_ok tblOk rfl rfl) ?_)
  refine (Rename_ok hF hS.holds nA nB (x := (s ++ t, s.length)) rfl rfl (by simp [findM, calmM, fget, kget]) rfl (by simp [calmM]) (by simp [calmM])).mono ?_
  rintro _ w12 ⟨rfl, L6, hF, hS'⟩
  have hS := hS.call hS'
  have hF : FSo f (calmM [(nB, (s ++ t, s.length)), (nC, (u, 0))] 6) L6 := by
    simpa [calmM, acted, fateOf, kget, kput, kdel] using hF
  repeat (first | refine SemW.run tblOk ?_ | refine IntG.nw (by omega) ?_ | refine IntG.nu8 (by omega) ?_ | refine IntG.nu32 (by omega) ?_ | refine IntG.nu64 (by omega) ?_ | refine IntG.wr' rfl ?_ | refine Chk.mk (by omega) ?_ | (refine BrG.id ?_; first | with_reducible refine BrG.t ?_ | with_reducible refine BrG.f ?_ | with_reducible refine BrG.notG ?_ | with_reducible refine BrG.nn ?_ | with_reducible refine BrG.ns ?_ | refine BrG.pos (by omega) ?_ | refine BrG.neg (by omega) ?_) | refine Chk.mk (ptr_ok tblOk rfl rfl) ?_)
  refine (Read_calmM hF hS.holds (s ++ t, s.length) (by simp [kget])).mono ?_
  rintro _ w13 ⟨rfl, hS'⟩
  have hS := hS.call hS'
  repeat (first | refine SemW.run tblOk ?_ | refine IntG.nw (by omega) ?_ | refine IntG.nu8 (by omega) ?_ | refine IntG.nu32 (by omega) ?_ | refine IntG.nu64 (by omega) ?_ | refine IntG.wr' rfl ?_ | refine Chk.mk (by omega) ?_ | (refine BrG.id ?_; first | with_reducible refine BrG.t ?_ | with_reducible refine BrG.f ?_ | with_reducible refine BrG.notG ?_ | with_reducible refine BrG.nn ?_ | with_reducible refine BrG.ns ?_ | refine BrG.pos (by omega) ?_ | refine BrG.neg (by omega) ?_) | refine Chk.mk (ptr_ok tblOk rfl rfl) ?_)
  refine (Read_calmM hF hS.holds (u, 0) (by simp [kget])).mono ?_
  rintro _ w14 ⟨rfl, hS'⟩
  have hS := hS.call hS'
  repeat (first | refine SemW.run tblOk ?_ | refine IntG.nw (by omega) ?_ | refine IntG.nu8 (by omega) ?_ | refine IntG.nu32 (by omega) ?_ | refine IntG.nu64 (by omega) ?_ | refine IntG.wr' rfl ?_ | refine Chk.mk (by omega) ?_ | (refine BrG.id ?_; first | with_reducible refine BrG.t ?_ | with_reducible refine BrG.f ?_ | with_reducible refine BrG.notG ?_ | with_reducible refine BrG.nn ?_ | with_reducible refine BrG.ns ?_ | refine BrG.pos (by omega) ?_ | refine BrG.neg (by omega) ?_) | refine Chk.mk (ptr_ok tblOk rfl rfl) ?_)
  refine (Read_goneM hF hS.holds (by simp [kget])).mono ?_
  rintro _ w15 ⟨rfl, hS'⟩
  have hS := hS.call hS'
  repeat (first | refine SemW.run tblOk ?_ | refine IntG.nw (by omega) ?_ | refine IntG.nu8 (by omega) ?_ | refine IntG.nu32 (by omega) ?_ | refine IntG.nu64 (by omega) ?_ | refine IntG.wr' rfl ?_ | refine Chk.mk (by omega) ?_ | (refine BrG.id ?_; first | with_reducible refine BrG.t ?_ | with_reducible refine BrG.f ?_ | with_reducible refine BrG.notG ?_ | with_reducible refine BrG.nn ?_ | with_reducible refine BrG.ns ?_ | refine BrG.pos (by omega) ?_ | refine BrG.neg (by omega) ?_) | refine Chk.mk (ptr_ok tblOk rfl rfl) ?_)
  have hfo : ∀ n, fileOf (calmM [(nB, (s ++ t, s.length)), (nC, (u, 0))] 6).files n = if n = nB then (s ++ t, s.length) else if n = nC then (u, 0) else ([], 0) := by
    intro n; simp only [fileOf, calmM, kget]
    split
    · rfl
    · split <;> rfl
  refine (Crash_spec hF hS.holds (cuts := []) (Arr.nil _ _ _) (by simp) (by simp [calmM]) ?_ ?_ ?_).mono ?_
  · intro x hx
    have hmx : 1 ≤ maxLen := by decide
    simp [calmM] at hx
    rcases hx with rfl | rfl <;> exact hmx
  · intro n; rw [hfo]; split
    · simp
    · split <;> simp
  · intro n; rw [hfo]; split
    · simp; omega
    · split
      · simp; omega
      · simp
  rintro _ w16 ⟨ns, g, Lg, hp, rfl, hG, hS'⟩
  have hS := hS.call hS'
  have hns : ns = [nB, nC] ∨ ns = [nC, nB] := by
    have hp' : ns.Perm [nB, nC] := hp
    have hl := hp'.length_eq
    match ns, hp', hl with
    | [p, q], hp', _ =>
      have h1 : p = nB ∨ p = nC := by simpa using hp'.mem_iff.1 (List.mem_cons_self)
      have h2 : q = nB ∨ q = nC := by simpa using hp'.mem_iff.1 (List.mem_cons_of_mem _ (List.mem_cons_self))
      have h3 : [p, q].Nodup := hp'.nodup_iff.2 (by decide)
      rcases h1 with rfl | rfl <;> rcases h2 with rfl | rfl
      · simp at h3
      · exact .inl rfl
      · exact .inr rfl
      · simp at h3
  obtain ⟨fsx, hG, hgx⟩ : ∃ fsx, FSo g (calmM fsx 0) Lg ∧ kget nB fsx = some (s, s.length) := by
    refine ⟨_, hG, ?_⟩
    rcases hns with rfl | rfl <;> simp [crashF, hfo, kget, kput, keepOf, cutFile]
  repeat (first | refine SemW.run tblOk ?_ | refine IntG.nw (by omega) ?_ | refine IntG.nu8 (by omega) ?_ | refine IntG.nu32 (by omega) ?_ | refine IntG.nu64 (by omega) ?_ | refine IntG.wr' rfl ?_ | refine Chk.mk (by omega) ?_ | (refine BrG.id ?_; first | with_reducible refine BrG.t ?_ | with_reducible refine BrG.f ?_ | with_reducible refine BrG.notG ?_ | with_reducible refine BrG.nn ?_ | with_reducible refine BrG.ns ?_ | refine BrG.pos (by omega) ?_ | refine BrG.neg (by omega) ?_) | refine Chk.mk (ptr_ok tblOk rfl rfl) ?_)
  refine BrG.pos rfl ?_
  repeat (first | refine SemW.run tblOk ?_ | refine IntG.nw (by omega) ?_ | refine IntG.nu8 (by omega) ?_ | refine IntG.nu32 (by omega) ?_ | refine IntG.nu64 (by omega) ?_ | refine IntG.wr' rfl ?_ | refine Chk.mk (by omega) ?_ | (refine BrG.id ?_; first | with_reducible refine BrG.t ?_ | with_reducible refine BrG.f ?_ | with_reducible refine BrG.notG ?_ | with_reducible refine BrG.nn ?_ | with_reducible refine BrG.ns ?_ | refine BrG.pos (by omega) ?_ | refine BrG.neg (by omega) ?_) | refine Chk.mk (ptr_ok tblOk rfl rfl) ?_)
  refine BrG.pos rfl ?_
  repeat (first | refine SemW.run tblOk ?_ | refine IntG.nw (by omega) ?_ | refine IntG.nu8 (by omega) ?_ | refine IntG.nu32 (by omega) ?_ | refine IntG.nu64 (by omega) ?_ | refine IntG.wr' rfl ?_ | refine Chk.mk (by omega) ?_ | (refine BrG.id ?_; first | with_reducible refine BrG.t ?_ | with_reducible refine BrG.f ?_ | with_reducible refine BrG.notG ?_ | with_reducible refine BrG.nn ?_ | with_reducible refine BrG.ns ?_ | refine BrG.pos (by omega) ?_ | refine BrG.neg (by omega) ?_) | refine Chk.mk (ptr_ok tblOk rfl rfl) ?_)
  refine (Read_calmM hG (hS.part (L := Lg)) (s, s.length) hgx).mono ?_
  rintro _ w17 ⟨rfl, hS'⟩
  have hS := hS.call (L := Lg) hS'
  repeat (first | refine SemW.run tblOk ?_ | refine IntG.nw (by omega) ?_ | refine IntG.nu8 (by omega) ?_ | refine IntG.nu32 (by omega) ?_ | refine IntG.nu64 (by omega) ?_ | refine IntG.wr' rfl ?_ | refine Chk.mk (by omega) ?_ | (refine BrG.id ?_; first | with_reducible refine BrG.t ?_ | with_reducible refine BrG.f ?_ | with_reducible refine BrG.notG ?_ | with_reducible refine BrG.nn ?_ | with_reducible refine BrG.ns ?_ | refine BrG.pos (by omega) ?_ | refine BrG.neg (by omega) ?_) | refine Chk.mk (ptr_ok tblOk rfl rfl) ?_)
  refine BrG.pos rfl ?_
  repeat (first | refine SemW.run tblOk ?_ | refine IntG.nw (by omega) ?_ | refine IntG.nu8 (by omega) ?_ | refine IntG.nu32 (by omega) ?_ | refine IntG.nu64 (by omega) ?_ | refine IntG.wr' rfl ?_ | refine Chk.mk (by omega) ?_ | (refine BrG.id ?_; first | with_reducible refine BrG.t ?_ | with_reducible refine BrG.f ?_ | with_reducible refine BrG.notG ?_ | with_reducible refine BrG.nn ?_ | with_reducible refine BrG.ns ?_ | refine BrG.pos (by omega) ?_ | refine BrG.neg (by omega) ?_) | refine Chk.mk (ptr_ok tblOk rfl rfl) ?_)
  refine (Delete_calmM hF (hS.part (L := L6)) (s ++ t, s.length) (by simp [kget]) (by simp) [(nC, (u, 0))] (by simp [kdel])).mono ?_
  rintro _ w18 ⟨rfl, L7, hF, hS'⟩
  have hS := hS.call (L := L6) hS'
  repeat (first | refine SemW.run tblOk ?_ | refine IntG.nw (by omega) ?_ | refine IntG.nu8 (by omega) ?_ | refine IntG.nu32 (by omega) ?_ | refine IntG.nu64 (by omega) ?_ | refine IntG.wr' rfl ?_ | refine Chk.mk (by omega) ?_ | (refine BrG.id ?_; first | with_reducible refine BrG.t ?_ | with_reducible refine BrG.f ?_ | with_reducible refine BrG.notG ?_ | with_reducible refine BrG.nn ?_ | with_reducible refine BrG.ns ?_ | refine BrG.pos (by omega) ?_ | refine BrG.neg (by omega) ?_) | refine Chk.mk (ptr_ok tblOk rfl rfl) ?_)
  refine (List_ok hF (hS.part (L := L7)) rfl (by simp [calmM]) (by
    intro x hx
    have hmx : 1 ≤ maxLen := by decide
    simp [calmM] at hx
    subst hx; exact hmx)).mono ?_
  rintro _ w19 ⟨ns2, an, capn, Lv, hp2, rfl, hv, hS'⟩
  have hS := hS.call (L := L7) hS'
  have hn2 : ns2 = [nC] := by simpa [calmM] using hp2
  have hl2 : ns2.length = 1 := by rw [hn2]; rfl
  rw [hl2] at hv ⊢
  rw [hn2] at hv
  have hv : Vec T_string 1 an 1 capn [Str nC] Lv := hv
  obtain ⟨gv, lv, rfl, hvx, hvl, hvn, rfl⟩ : ∃ g l, an = some ⟨g, 0, none⟩ ∧ [Str nC].length = 1 * 1 ∧ [Str nC].length + l.length = capn * 1 ∧ 1 ≤ capn ∧ Lv = [(g, .cells ⟨[Str nC] ++ l⟩ T_string (0, 0))] := by
    rcases hv.inv with ⟨_, h, _⟩ | h
    · simp at h
    · exact h
  have hS : St w [] (Lg ++ ((gv, .cells ⟨[Str nC] ++ lv⟩ T_string (0, 0)) :: L7)) w19 := hS
  repeat (first | refine SemW.run tblOk ?_ | refine IntG.nw (by omega) ?_ | refine IntG.nu8 (by omega) ?_ | refine IntG.nu32 (by omega) ?_ | refine IntG.nu64 (by omega) ?_ | refine IntG.wr' rfl ?_ | refine Chk.mk (by omega) ?_ | (refine BrG.id ?_; first | with_reducible refine BrG.t ?_ | with_reducible refine BrG.f ?_ | with_reducible refine BrG.notG ?_ | with_reducible refine BrG.nn ?_ | with_reducible refine BrG.ns ?_ | refine BrG.pos (by omega) ?_ | refine BrG.neg (by omega) ?_) | refine Chk.mk (ptr_ok tblOk rfl rfl) ?_ | refine hS.ld rfl ?_ | refine hS.ldn rfl ?_ | (refine hS.st rfl rfl ?_; intro _ hS))
  exact ⟨rfl, hS.nil⟩
end Go.Proofs.Ytnmmiiffeenjbaa
