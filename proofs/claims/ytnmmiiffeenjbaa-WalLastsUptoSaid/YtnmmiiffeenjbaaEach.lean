/- tarmaclaw05.lives, WalEach. -/
import Derived.Test.YtnmmiiffeenjbaaLaw5
import Derived.Test.YtnmmiiffeenjbaaWrap
namespace Go.Proofs.Ytnmmiiffeenjbaa
open Go Go.Eng Go.Proofs

/-- Open on a calm file system with whole frames. -/
theorem Open_calm {w : World} {f : Nat} {L : Heap} {o : Option Bytes} {k : Nat} (hF : FSo f (fsmT o k) L) (hh : Holds L w) (ps : List Bytes) (ho : o.getD [] = sealB ps) (hok : okLens ps = true) (hlen : (sealB ps).length ≤ 1099511627776) (n : Nat) (hn : ps.length = n) :
    Cl Try.prog f_wal_Open [ptr f, Str logN] w fun v w' => ∃ bl a cap Lv, w.heap.size ≤ bl ∧ v = .tuple ⟨[ptr bl, .slice a n cap, .int .i64 0]⟩ ∧
      Vec T_string 1 a n cap (ps.map Str) Lv ∧ St w (keys L) (Lv ++ (bl, logC f logN n false false) :: L) w' := by
  have h1 : (findM (fsmT o k) logN).1.1 = sealB ps := by
    rw [findM_calm, ← ho]; cases o <;> rfl
  have h2 := scan_seal ps hok
  refine (Open_ok hF hh logN (openE_calm _ _) (by rw [h1]; exact hlen)).mono ?_
  rw [h1, h2]
  simp only [decide_true, Bool.not_true]
  subst hn
  exact fun v w' h => h
theorem keys_right {b : Nat} {X Y : Heap} (h : b ∈ keys X) : b ∈ keys (Y ++ X) := by
  simp only [keys, List.map_append]; exact List.mem_append_right _ h
theorem nodup_new {b : Nat} {o : Obj} {H : Heap} {w0 w : World} {T : List Nat} (hS : St w0 T ((b, o) :: H) w) : b ∉ keys H := by
  have := hS.nd; simp only [keys, List.map_cons, List.nodup_cons] at this; exact this.1

/-- What was readable before lies in no block made since. -/
theorem St.arrNew {w0 w : World} {T : List Nat} {H L : Heap} {F : Heap → Heap} (hS : St w0 T H w) [hc : Chunk H L F] {a : Option Addr} {xs : List Value} (h : Arr w0 T a xs) : Arr w (keys L) a xs := fun j x hx => by
  obtain ⟨b, off, h1, h2, h3⟩ := h j x hx
  refine ⟨b, off, h1, fun hm => ?_, hS.oldCell (a := ⟨b, off + j, none⟩) h2 h3⟩
  obtain ⟨A, B, hH, _⟩ := hc.at_
  obtain ⟨p, hp, rfl⟩ := List.mem_map.1 hm
  refine h2 (hS.fresh p (by rw [hH]; simp [hp]) ?_)
  cases hb : w0.heap[p.1]? with
  | none => simp [World.cell?, hb] at h3
  | some o => exact (Array.getElem?_eq_some_iff.1 hb).1
theorem Acts_calm {w : World} {b : Nat} {o : Option Bytes} {k : Nat} {L : Heap} (hF : FSo b (fsmT o k) L) (hh : Holds L w) : Cl Try.prog f_vfs_power_Acts [ptr b] w fun v w' => v = .int .i64 k ∧ St w (keys L) L w' := Acts_spec hF hh
theorem LogAppend_calm {w : World} {bl f : Nat} {L : Heap} {o : Option Bytes} {k n : Nat} (hF : FSo f (fsmT o k) L) (hh : Holds ((bl, logC f logN n false false) :: L) w) {a : Option Addr} {cap : Nat} {ps : List Bytes}
    (ha : Arr w (keys ((bl, logC f logN n false false) :: L)) a (ps.map Str)) (hok : okLens ps = true) (hne : ps ≠ []) (hps : sumLen ps + 8 * ps.length + (o.getD []).length ≤ 140737488355328) (hn : n + ps.length ≤ 9223372036854775807) (hk : k + 2 ≤ 9223372036854775807) :
    Cl Try.prog f_wal_Log_Append [ptr bl, .slice a ps.length cap] w fun v w' => v = .int .i64 0 ∧
      ∃ L', FSo f (fsmT (some (o.getD [] ++ sealB ps)) (k + 2)) L' ∧ St w (keys ((bl, logC f logN n false false) :: L)) ((bl, logC f logN (n + ps.length) false false) :: L') w' := by
  refine (LogAppend_spec (torn := false) (dead := false) hF hh ha (by rw [fget_calm]; exact hps) hn hk hk).mono ?_
  rw [logAppM_calm o k n ps hok hne]
  exact fun v w' h => h
theorem LogAppend_none {w : World} {bl f : Nat} {L : Heap} {o : Option Bytes} {k n : Nat} (hF : FSo f (fsmT o k) L) (hh : Holds ((bl, logC f logN n false false) :: L) w) {a : Option Addr} {cap : Nat} {ps : List Bytes}
    (ha : Arr w (keys ((bl, logC f logN n false false) :: L)) a (ps.map Str)) (hok : okLens ps = false ∨ ps = []) (hps : sumLen ps + 8 * ps.length + (o.getD []).length ≤ 140737488355328) (hn : n + ps.length ≤ 9223372036854775807) (hk : k + 2 ≤ 9223372036854775807) :
    Cl Try.prog f_wal_Log_Append [ptr bl, .slice a ps.length cap] w fun v w' => v = .int .i64 (if okLens ps then 0 else 2) ∧
      ∃ L', FSo f (fsmT o k) L' ∧ St w (keys ((bl, logC f logN n false false) :: L)) ((bl, logC f logN n false false) :: L') w' := by
  refine (LogAppend_spec (torn := false) (dead := false) hF hh ha (by rw [fget_calm]; exact hps) hn hk hk).mono ?_
  rcases hok with hok | rfl
  · rw [logAppM_long o k n ps hok, hok]
    exact fun v w' h => h
  · rw [logAppM_nil o k n]
    exact fun v w' h => h
abbrev ab : List Bytes := [[97], [98]]
set_option maxHeartbeats 1000000 in
set_option maxRecDepth 4000 in
theorem lives5_spec {w : World} : Cl Try.prog f_tarmaclaw05_lives [] w fun v w' => v = .bool true ∧ St w [] [] w' := by
  have hS := St.start w
  refine en_tarmaclaw05_lives rfl ?_
  repeat (first | refine SemW.run tblOk ?_ | refine IntG.nw (by omega) ?_ | refine IntG.nu8 (by omega) ?_ | refine IntG.nu32 (by omega) ?_ | refine IntG.nu64 (by omega) ?_ | refine IntG.wr' rfl ?_ | refine Chk.mk (by omega) ?_ | (refine BrG.id ?_; first | with_reducible refine BrG.t ?_ | with_reducible refine BrG.f ?_ | with_reducible refine BrG.notG ?_ | with_reducible refine BrG.nn ?_ | with_reducible refine BrG.ns ?_ | refine BrG.pos (by omega) ?_ | refine BrG.neg (by omega) ?_) | refine Chk.mk (ptr_ok tblOk rfl rfl) ?_)
  refine New_spec.mono ?_
  rintro _ w1 ⟨f, L, rfl, hf, hF, hS'⟩
  have hS := hS.callNew hS'
  rw [List.append_nil] at hS
  have hF : FSo f (fsmT none 0) L := hF
  repeat (first | refine SemW.run tblOk ?_ | refine IntG.nw (by omega) ?_ | refine IntG.nu8 (by omega) ?_ | refine IntG.nu32 (by omega) ?_ | refine IntG.nu64 (by omega) ?_ | refine IntG.wr' rfl ?_ | refine Chk.mk (by omega) ?_ | (refine BrG.id ?_; first | with_reducible refine BrG.t ?_ | with_reducible refine BrG.f ?_ | with_reducible refine BrG.notG ?_ | with_reducible refine BrG.nn ?_ | with_reducible refine BrG.ns ?_ | refine BrG.pos (by omega) ?_ | refine BrG.neg (by omega) ?_) | refine Chk.mk (ptr_ok tblOk rfl rfl) ?_)
  refine (Open_calm hF (hS.part (L := L)) [] rfl rfl (by simp [sealB]) 0 rfl).mono ?_
  rintro _ w2 ⟨bl, a, cap, Lv, hbl, rfl, hv, hS'⟩
  have hS := (hS.call (L := L) hS')
  repeat (first | refine SemW.run tblOk ?_ | refine IntG.nw (by omega) ?_ | refine IntG.nu8 (by omega) ?_ | refine IntG.nu32 (by omega) ?_ | refine IntG.nu64 (by omega) ?_ | refine IntG.wr' rfl ?_ | refine Chk.mk (by omega) ?_ | (refine BrG.id ?_; first | with_reducible refine BrG.t ?_ | with_reducible refine BrG.f ?_ | with_reducible refine BrG.notG ?_ | with_reducible refine BrG.nn ?_ | with_reducible refine BrG.ns ?_ | refine BrG.pos (by omega) ?_ | refine BrG.neg (by omega) ?_) | refine Chk.mk (ptr_ok tblOk rfl rfl) ?_)
  refine hS.al ?_
  intro b2 w3 _ hS
  repeat (first | refine SemW.run tblOk ?_ | refine IntG.nw (by omega) ?_ | refine IntG.nu8 (by omega) ?_ | refine IntG.nu32 (by omega) ?_ | refine IntG.nu64 (by omega) ?_ | refine IntG.wr' rfl ?_ | refine Chk.mk (by omega) ?_ | (refine BrG.id ?_; first | with_reducible refine BrG.t ?_ | with_reducible refine BrG.f ?_ | with_reducible refine BrG.notG ?_ | with_reducible refine BrG.nn ?_ | with_reducible refine BrG.ns ?_ | refine BrG.pos (by omega) ?_ | refine BrG.neg (by omega) ?_) | refine Chk.mk (ptr_ok tblOk rfl rfl) ?_)
  have hb2 := fun h => nodup_new hS (keys_right (X := (bl, logC f logN 0 false false) :: L) h)
  refine (LogAppend_calm hF (hS.part (L := (bl, logC f logN 0 false false) :: L)) (ps := ab) (hS.arr (b := b2) hb2) rfl (by simp) (by simp [sumLen]) (by simp) (by simp)).mono ?_
  rintro _ w4 ⟨rfl, L1, hF1, hS'⟩
  have hS := hS.call (L := (bl, logC f logN 0 false false) :: L) hS'
  repeat (first | refine SemW.run tblOk ?_ | refine IntG.nw (by omega) ?_ | refine IntG.nu8 (by omega) ?_ | refine IntG.nu32 (by omega) ?_ | refine IntG.nu64 (by omega) ?_ | refine IntG.wr' rfl ?_ | refine Chk.mk (by omega) ?_ | (refine BrG.id ?_; first | with_reducible refine BrG.t ?_ | with_reducible refine BrG.f ?_ | with_reducible refine BrG.notG ?_ | with_reducible refine BrG.nn ?_ | with_reducible refine BrG.ns ?_ | refine BrG.pos (by omega) ?_ | refine BrG.neg (by omega) ?_) | refine Chk.mk (ptr_ok tblOk rfl rfl) ?_)
  refine (Acts_calm hF1 (hS.part (L := L1))).mono ?_
  rintro _ w5 ⟨rfl, hS'⟩
  have hS := hS.call (L := L1) hS'
  repeat (first | refine SemW.run tblOk ?_ | refine IntG.nw (by omega) ?_ | refine IntG.nu8 (by omega) ?_ | refine IntG.nu32 (by omega) ?_ | refine IntG.nu64 (by omega) ?_ | refine IntG.wr' rfl ?_ | refine Chk.mk (by omega) ?_ | (refine BrG.id ?_; first | with_reducible refine BrG.t ?_ | with_reducible refine BrG.f ?_ | with_reducible refine BrG.notG ?_ | with_reducible refine BrG.nn ?_ | with_reducible refine BrG.ns ?_ | refine BrG.pos (by omega) ?_ | refine BrG.neg (by omega) ?_) | refine Chk.mk (ptr_ok tblOk rfl rfl) ?_)
  refine (Open_calm hF1 (hS.part (L := L1)) ab rfl rfl (by rw [sealB_len]; simp [sumLen]) 2 rfl).mono ?_
  rintro _ w6 ⟨bl2, a2, cap2, Lv2, hbl2, rfl, hv2, hS'⟩
  have hS := hS.call (L := L1) hS'
  repeat (first | refine SemW.run tblOk ?_ | refine IntG.nw (by omega) ?_ | refine IntG.nu8 (by omega) ?_ | refine IntG.nu32 (by omega) ?_ | refine IntG.nu64 (by omega) ?_ | refine IntG.wr' rfl ?_ | refine Chk.mk (by omega) ?_ | (refine BrG.id ?_; first | with_reducible refine BrG.t ?_ | with_reducible refine BrG.f ?_ | with_reducible refine BrG.notG ?_ | with_reducible refine BrG.nn ?_ | with_reducible refine BrG.ns ?_ | refine BrG.pos (by omega) ?_ | refine BrG.neg (by omega) ?_) | refine Chk.mk (ptr_ok tblOk rfl rfl) ?_)
  refine hS.al ?_
  intro b3 w7 _ hS
  repeat (first | refine SemW.run tblOk ?_ | refine IntG.nw (by omega) ?_ | refine IntG.nu8 (by omega) ?_ | refine IntG.nu32 (by omega) ?_ | refine IntG.nu64 (by omega) ?_ | refine IntG.wr' rfl ?_ | refine Chk.mk (by omega) ?_ | (refine BrG.id ?_; first | with_reducible refine BrG.t ?_ | with_reducible refine BrG.f ?_ | with_reducible refine BrG.notG ?_ | with_reducible refine BrG.nn ?_ | with_reducible refine BrG.ns ?_ | refine BrG.pos (by omega) ?_ | refine BrG.neg (by omega) ?_) | refine Chk.mk (ptr_ok tblOk rfl rfl) ?_)
  refine (Same_spec (ps := ab) (qs := ab) (hv2.arr hS (by simp)) (hS.arr (b := b3) (by simp)) (by simp)).mono ?_
  rintro _ w8 ⟨rfl, hS'⟩
  have hS := hS.call0 hS'
  rw [decide_eq_true (rfl : ab = ab)]
  repeat (first | refine SemW.run tblOk ?_ | refine IntG.nw (by omega) ?_ | refine IntG.nu8 (by omega) ?_ | refine IntG.nu32 (by omega) ?_ | refine IntG.nu64 (by omega) ?_ | refine IntG.wr' rfl ?_ | refine Chk.mk (by omega) ?_ | (refine BrG.id ?_; first | with_reducible refine BrG.t ?_ | with_reducible refine BrG.f ?_ | with_reducible refine BrG.notG ?_ | with_reducible refine BrG.nn ?_ | with_reducible refine BrG.ns ?_ | refine BrG.pos (by omega) ?_ | refine BrG.neg (by omega) ?_) | refine Chk.mk (ptr_ok tblOk rfl rfl) ?_)
  refine (Torn_spec (hS.part (L := (bl2, logC f logN 2 false false) :: L1))).mono ?_
  rintro _ w9 ⟨rfl, hS'⟩
  have hS := hS.call0 hS'
  repeat (first | refine SemW.run tblOk ?_ | refine IntG.nw (by omega) ?_ | refine IntG.nu8 (by omega) ?_ | refine IntG.nu32 (by omega) ?_ | refine IntG.nu64 (by omega) ?_ | refine IntG.wr' rfl ?_ | refine Chk.mk (by omega) ?_ | (refine BrG.id ?_; first | with_reducible refine BrG.t ?_ | with_reducible refine BrG.f ?_ | with_reducible refine BrG.notG ?_ | with_reducible refine BrG.nn ?_ | with_reducible refine BrG.ns ?_ | refine BrG.pos (by omega) ?_ | refine BrG.neg (by omega) ?_) | refine Chk.mk (ptr_ok tblOk rfl rfl) ?_)
  refine (Count_spec (hS.part (L := (bl2, logC f logN 2 false false) :: L1))).mono ?_
  rintro _ w10 ⟨rfl, hS'⟩
  have hS := hS.call0 hS'
  repeat (first | refine SemW.run tblOk ?_ | refine IntG.nw (by omega) ?_ | refine IntG.nu8 (by omega) ?_ | refine IntG.nu32 (by omega) ?_ | refine IntG.nu64 (by omega) ?_ | refine IntG.wr' rfl ?_ | refine Chk.mk (by omega) ?_ | (refine BrG.id ?_; first | with_reducible refine BrG.t ?_ | with_reducible refine BrG.f ?_ | with_reducible refine BrG.notG ?_ | with_reducible refine BrG.nn ?_ | with_reducible refine BrG.ns ?_ | refine BrG.pos (by omega) ?_ | refine BrG.neg (by omega) ?_) | refine Chk.mk (ptr_ok tblOk rfl rfl) ?_)
  exact ⟨rfl, hS.nil⟩

theorem Read_calm {w : World} {b : Nat} {o : Option Bytes} {k : Nat} {L : Heap} (hF : FSo b (fsmT o k) L) (hh : Holds L w) :
    Cl Try.prog f_vfs_FS_Read [ptr b, Str logN] w fun v w' => v = .tuple ⟨[Str (o.getD []), .int .i64 (if o.isSome then 0 else 5)]⟩ ∧ St w (keys L) L w' := by
  refine (Read_spec hF hh logN).mono ?_
  rw [findM_calm]
  cases o <;> exact fun v w' h => h
theorem LogAppend_first {w : World} {bl f : Nat} {L : Heap} (hF : FSo f (fsmT none 0) L) (hh : Holds ((bl, logC f logN 0 false false) :: L) w) {a : Option Addr} {cap : Nat} {ps : List Bytes}
    (ha : Arr w (keys ((bl, logC f logN 0 false false) :: L)) a (ps.map Str)) (hok : okLens ps = true) (hps : sumLen ps + 8 * ps.length ≤ 140737488355328) :
    Cl Try.prog f_wal_Log_Append [ptr bl, .slice a ps.length cap] w fun v w' => v = .int .i64 0 ∧
      ∃ o' k' L', o'.getD [] = sealB ps ∧ FSo f (fsmT o' k') L' ∧ St w (keys ((bl, logC f logN 0 false false) :: L)) ((bl, logC f logN ps.length false false) :: L') w' := by
  by_cases he : ps = []
  · refine (LogAppend_none hF hh ha (.inr he) (by simpa using hps) (by omega) (by simp)).mono ?_
    rintro _ w' ⟨rfl, L', hF', hS'⟩
    rw [if_pos hok]
    subst he
    exact ⟨rfl, none, 0, L', rfl, hF', hS'⟩
  · refine (LogAppend_calm hF hh ha hok he (by simpa using hps) (by omega) (by simp)).mono ?_
    rintro _ w' ⟨rfl, L', hF', hS'⟩
    rw [Nat.zero_add] at hS'
    exact ⟨rfl, _, _, L', rfl, hF', hS'⟩

set_option maxHeartbeats 2000000 in
set_option maxRecDepth 4000 in
theorem WalEach_spec {w : World} {a : Option Addr} {cap : Nat} {ps : List Bytes} (ha : Arr w [] a (ps.map Str)) (hc : ps.length ≤ cap) (hb : sumLen ps + cap + 1 ≤ 1048576) :
    Cl Try.prog f_tarmaclaw05_WalEach [.slice a ps.length cap] w fun v w' => v = .bool true ∧ St w [] [] w' := by
  have hS := St.start w
  refine en_tarmaclaw05_WalEach rfl ?_
  repeat (first | refine SemW.run tblOk ?_ | refine IntG.nw (by omega) ?_ | refine IntG.nu8 (by omega) ?_ | refine IntG.nu32 (by omega) ?_ | refine IntG.nu64 (by omega) ?_ | refine IntG.wr' rfl ?_ | refine Chk.mk (by omega) ?_ | (refine BrG.id ?_; first | with_reducible refine BrG.t ?_ | with_reducible refine BrG.f ?_ | with_reducible refine BrG.notG ?_ | with_reducible refine BrG.nn ?_ | with_reducible refine BrG.ns ?_ | refine BrG.pos (by omega) ?_ | refine BrG.neg (by omega) ?_) | refine Chk.mk (ptr_ok tblOk rfl rfl) ?_)
  refine lives5_spec.mono ?_
  rintro _ w1 ⟨rfl, hS'⟩
  have hS := hS.call0 hS'
  repeat (first | refine SemW.run tblOk ?_ | refine IntG.nw (by omega) ?_ | refine IntG.nu8 (by omega) ?_ | refine IntG.nu32 (by omega) ?_ | refine IntG.nu64 (by omega) ?_ | refine IntG.wr' rfl ?_ | refine Chk.mk (by omega) ?_ | (refine BrG.id ?_; first | with_reducible refine BrG.t ?_ | with_reducible refine BrG.f ?_ | with_reducible refine BrG.notG ?_ | with_reducible refine BrG.nn ?_ | with_reducible refine BrG.ns ?_ | refine BrG.pos (by omega) ?_ | refine BrG.neg (by omega) ?_) | refine Chk.mk (ptr_ok tblOk rfl rfl) ?_)
  refine New_spec.mono ?_
  rintro _ w2 ⟨f1, L1, rfl, hf1, hF1, hS'⟩
  have hS := hS.callNew hS'
  rw [List.append_nil] at hS
  have hF1 : FSo f1 (fsmT none 0) L1 := hF1
  repeat (first | refine SemW.run tblOk ?_ | refine IntG.nw (by omega) ?_ | refine IntG.nu8 (by omega) ?_ | refine IntG.nu32 (by omega) ?_ | refine IntG.nu64 (by omega) ?_ | refine IntG.wr' rfl ?_ | refine Chk.mk (by omega) ?_ | (refine BrG.id ?_; first | with_reducible refine BrG.t ?_ | with_reducible refine BrG.f ?_ | with_reducible refine BrG.notG ?_ | with_reducible refine BrG.nn ?_ | with_reducible refine BrG.ns ?_ | refine BrG.pos (by omega) ?_ | refine BrG.neg (by omega) ?_) | refine Chk.mk (ptr_ok tblOk rfl rfl) ?_)
  refine New_spec.mono ?_
  rintro _ w3 ⟨f2, L2, rfl, hf2, hF2, hS'⟩
  have hS := hS.callNew hS'
  have hF2 : FSo f2 (fsmT none 0) L2 := hF2
  repeat (first | refine SemW.run tblOk ?_ | refine IntG.nw (by omega) ?_ | refine IntG.nu8 (by omega) ?_ | refine IntG.nu32 (by omega) ?_ | refine IntG.nu64 (by omega) ?_ | refine IntG.wr' rfl ?_ | refine Chk.mk (by omega) ?_ | (refine BrG.id ?_; first | with_reducible refine BrG.t ?_ | with_reducible refine BrG.f ?_ | with_reducible refine BrG.notG ?_ | with_reducible refine BrG.nn ?_ | with_reducible refine BrG.ns ?_ | refine BrG.pos (by omega) ?_ | refine BrG.neg (by omega) ?_) | refine Chk.mk (ptr_ok tblOk rfl rfl) ?_)
  refine (Open_calm hF1 (hS.part (L := L1)) [] rfl rfl (by simp [sealB]) 0 rfl).mono ?_
  rintro _ w4 ⟨bl1, a1, cap1, Lv1, hbl1, rfl, hv1, hS'⟩
  have hS := hS.call (L := L1) hS'
  repeat (first | refine SemW.run tblOk ?_ | refine IntG.nw (by omega) ?_ | refine IntG.nu8 (by omega) ?_ | refine IntG.nu32 (by omega) ?_ | refine IntG.nu64 (by omega) ?_ | refine IntG.wr' rfl ?_ | refine Chk.mk (by omega) ?_ | (refine BrG.id ?_; first | with_reducible refine BrG.t ?_ | with_reducible refine BrG.f ?_ | with_reducible refine BrG.notG ?_ | with_reducible refine BrG.nn ?_ | with_reducible refine BrG.ns ?_ | refine BrG.pos (by omega) ?_ | refine BrG.neg (by omega) ?_) | refine Chk.mk (ptr_ok tblOk rfl rfl) ?_)
  refine (Open_calm hF2 (hS.part (L := L2)) [] rfl rfl (by simp [sealB]) 0 rfl).mono ?_
  rintro _ w5 ⟨bl2, a2, cap2, Lv2, hbl2, rfl, hv2, hS'⟩
  have hS := hS.call (L := L2) hS'
  have hS := hS.sub (H' := ((bl2, logC f2 logN 0 false false) :: L2) ++ ((bl1, logC f1 logN 0 false false) :: L1)) (List.Sublist.append (List.sublist_append_right _ _) (List.sublist_append_right _ _))
  repeat (first | refine SemW.run tblOk ?_ | refine IntG.nw (by omega) ?_ | refine IntG.nu8 (by omega) ?_ | refine IntG.nu32 (by omega) ?_ | refine IntG.nu64 (by omega) ?_ | refine IntG.wr' rfl ?_ | refine Chk.mk (by omega) ?_ | (refine BrG.id ?_; first | with_reducible refine BrG.t ?_ | with_reducible refine BrG.f ?_ | with_reducible refine BrG.notG ?_ | with_reducible refine BrG.nn ?_ | with_reducible refine BrG.ns ?_ | refine BrG.pos (by omega) ?_ | refine BrG.neg (by omega) ?_) | refine Chk.mk (ptr_ok tblOk rfl rfl) ?_)
  refine SemW.loop (fun k : Nat => [(0, .slice a ps.length cap), (3, ptr f1), (4, ptr f2), (5, ptr bl1), (8, ptr bl2), (49, .slice a ps.length cap), (50, .int .i64 ps.length), (51, .int .i64 k)]) (fun k w' => w5 = w' ∧ k ≤ ps.length ∧ (∀ j, (h : j < ps.length) → j < k → ps[j].length ≤ 65536)) (fun k => ps.length - k) 0
    ⟨rfl, rfl, rfl, rfl, rfl, rfl, rfl, rfl, trivial⟩ ⟨rfl, Nat.zero_le _, fun _ _ h => absurd h (Nat.not_lt_zero _)⟩ ?_
  rintro k w6 ⟨rfl, hk, hall⟩
  by_cases hkl : k < ps.length
  · have h1 := sumLen_take ps k hkl
    have h2 := sumLen_take_le ps (k + 1)
    obtain ⟨b', off', rfl, -, hck⟩ := ha.get (j := k) (by simp; omega)
    simp only [List.getElem_map] at hck
    repeat (first | refine SemW.run tblOk ?_ | refine IntG.nw (by omega) ?_ | refine IntG.nu8 (by omega) ?_ | refine IntG.nu32 (by omega) ?_ | refine IntG.nu64 (by omega) ?_ | refine IntG.wr' rfl ?_ | refine Chk.mk (by omega) ?_ | (refine BrG.id ?_; first | with_reducible refine BrG.t ?_ | with_reducible refine BrG.f ?_ | with_reducible refine BrG.notG ?_ | with_reducible refine BrG.nn ?_ | with_reducible refine BrG.ns ?_ | refine BrG.pos (by omega) ?_ | refine BrG.neg (by omega) ?_) | refine Chk.mk (ptr_ok tblOk rfl rfl) ?_)
    refine hS.ldOld (by simp) (by simpa using hck) ?_
    repeat (first | refine SemW.run tblOk ?_ | refine IntG.nw (by omega) ?_ | refine IntG.nu8 (by omega) ?_ | refine IntG.nu32 (by omega) ?_ | refine IntG.nu64 (by omega) ?_ | refine IntG.wr' rfl ?_ | refine Chk.mk (by omega) ?_ | (refine BrG.id ?_; first | with_reducible refine BrG.t ?_ | with_reducible refine BrG.f ?_ | with_reducible refine BrG.notG ?_ | with_reducible refine BrG.nn ?_ | with_reducible refine BrG.ns ?_ | refine BrG.pos (by omega) ?_ | refine BrG.neg (by omega) ?_) | refine Chk.mk (ptr_ok tblOk rfl rfl) ?_)
    refine BrG.dec (fun h => ?_) (fun h => ?_)
    · repeat (first | refine SemW.run tblOk ?_ | refine IntG.nw (by omega) ?_ | refine IntG.nu8 (by omega) ?_ | refine IntG.nu32 (by omega) ?_ | refine IntG.nu64 (by omega) ?_ | refine IntG.wr' rfl ?_ | refine Chk.mk (by omega) ?_ | (refine BrG.id ?_; first | with_reducible refine BrG.t ?_ | with_reducible refine BrG.f ?_ | with_reducible refine BrG.notG ?_ | with_reducible refine BrG.nn ?_ | with_reducible refine BrG.ns ?_ | refine BrG.pos (by omega) ?_ | refine BrG.neg (by omega) ?_) | refine Chk.mk (ptr_ok tblOk rfl rfl) ?_)
      refine hS.al ?_
      intro b3 w7 _ hS
      repeat (first | refine SemW.run tblOk ?_ | refine IntG.nw (by omega) ?_ | refine IntG.nu8 (by omega) ?_ | refine IntG.nu32 (by omega) ?_ | refine IntG.nu64 (by omega) ?_ | refine IntG.wr' rfl ?_ | refine Chk.mk (by omega) ?_ | (refine BrG.id ?_; first | with_reducible refine BrG.t ?_ | with_reducible refine BrG.f ?_ | with_reducible refine BrG.notG ?_ | with_reducible refine BrG.nn ?_ | with_reducible refine BrG.ns ?_ | refine BrG.pos (by omega) ?_ | refine BrG.neg (by omega) ?_) | refine Chk.mk (ptr_ok tblOk rfl rfl) ?_)
      have hb3 : b3 ∉ keys ((bl1, logC f1 logN 0 false false) :: L1) := fun h => nodup_new hS (keys_right h)
      refine (LogAppend_none hF1 (hS.part (L := (bl1, logC f1 logN 0 false false) :: L1)) (ps := [ps[k]]) (hS.arr (b := b3) hb3) (.inl (by simp [okLens]; omega)) (by simp [sumLen]; omega) (by simp) (by simp)).mono ?_
      rintro _ w8 ⟨rfl, L1', hF1', hS'⟩
      have hS := hS.call (L := (bl1, logC f1 logN 0 false false) :: L1) hS'
      have : okLens [ps[k]] = false := by simp [okLens]; omega
      rw [this]
      repeat (first | refine SemW.run tblOk ?_ | refine IntG.nw (by omega) ?_ | refine IntG.nu8 (by omega) ?_ | refine IntG.nu32 (by omega) ?_ | refine IntG.nu64 (by omega) ?_ | refine IntG.wr' rfl ?_ | refine Chk.mk (by omega) ?_ | (refine BrG.id ?_; first | with_reducible refine BrG.t ?_ | with_reducible refine BrG.f ?_ | with_reducible refine BrG.notG ?_ | with_reducible refine BrG.nn ?_ | with_reducible refine BrG.ns ?_ | refine BrG.pos (by omega) ?_ | refine BrG.neg (by omega) ?_) | refine Chk.mk (ptr_ok tblOk rfl rfl) ?_)
      exact ⟨rfl, hS.nil⟩
    · repeat (first | refine SemW.run tblOk ?_ | refine IntG.nw (by omega) ?_ | refine IntG.nu8 (by omega) ?_ | refine IntG.nu32 (by omega) ?_ | refine IntG.nu64 (by omega) ?_ | refine IntG.wr' rfl ?_ | refine Chk.mk (by omega) ?_ | (refine BrG.id ?_; first | with_reducible refine BrG.t ?_ | with_reducible refine BrG.f ?_ | with_reducible refine BrG.notG ?_ | with_reducible refine BrG.nn ?_ | with_reducible refine BrG.ns ?_ | refine BrG.pos (by omega) ?_ | refine BrG.neg (by omega) ?_) | refine Chk.mk (ptr_ok tblOk rfl rfl) ?_)
      refine ⟨k + 1, ⟨rfl, rfl, rfl, rfl, rfl, rfl, rfl, rfl, trivial⟩, ⟨rfl, by omega, fun j hj hjk => ?_⟩, by omega⟩
      by_cases hjk' : j = k
      · subst hjk'; omega
      · exact hall j hj (by omega)
  · have hke : k = ps.length := by omega
    subst hke
    have hok : okLens ps = true := List.all_eq_true.2 fun p hp => by
      obtain ⟨j, hj, rfl⟩ := List.getElem_of_mem hp
      exact decide_eq_true (hall j hj hj)
    repeat (first | refine SemW.run tblOk ?_ | refine IntG.nw (by omega) ?_ | refine IntG.nu8 (by omega) ?_ | refine IntG.nu32 (by omega) ?_ | refine IntG.nu64 (by omega) ?_ | refine IntG.wr' rfl ?_ | refine Chk.mk (by omega) ?_ | (refine BrG.id ?_; first | with_reducible refine BrG.t ?_ | with_reducible refine BrG.f ?_ | with_reducible refine BrG.notG ?_ | with_reducible refine BrG.nn ?_ | with_reducible refine BrG.ns ?_ | refine BrG.pos (by omega) ?_ | refine BrG.neg (by omega) ?_) | refine Chk.mk (ptr_ok tblOk rfl rfl) ?_)
    refine (LogAppend_first hF1 (hS.part (L := (bl1, logC f1 logN 0 false false) :: L1)) (ps := ps) (St.arrNew hS ha) hok (by omega)).mono ?_
    rintro _ w7 ⟨rfl, o1, k1, L1', ho1, hF1', hS'⟩
    have hS := hS.call (L := (bl1, logC f1 logN 0 false false) :: L1) hS'
    repeat (first | refine SemW.run tblOk ?_ | refine IntG.nw (by omega) ?_ | refine IntG.nu8 (by omega) ?_ | refine IntG.nu32 (by omega) ?_ | refine IntG.nu64 (by omega) ?_ | refine IntG.wr' rfl ?_ | refine Chk.mk (by omega) ?_ | (refine BrG.id ?_; first | with_reducible refine BrG.t ?_ | with_reducible refine BrG.f ?_ | with_reducible refine BrG.notG ?_ | with_reducible refine BrG.nn ?_ | with_reducible refine BrG.ns ?_ | refine BrG.pos (by omega) ?_ | refine BrG.neg (by omega) ?_) | refine Chk.mk (ptr_ok tblOk rfl rfl) ?_)
    refine SemW.loop (fun k : Nat => [(0, .slice a ps.length cap), (3, ptr f1), (4, ptr f2), (5, ptr bl1), (8, ptr bl2), (68, .slice a ps.length cap), (69, .int .i64 ps.length), (70, .int .i64 k)])
      (fun k w' => k ≤ ps.length ∧ ∃ o2 L2', o2.getD [] = sealB (ps.take k) ∧ FSo f2 (fsmT o2 (2 * k)) L2' ∧ St w [] (((bl2, logC f2 logN k false false) :: L2') ++ ((bl1, logC f1 logN ps.length false false) :: L1')) w') (fun k => ps.length - k) 0
      ⟨rfl, rfl, rfl, rfl, rfl, rfl, rfl, rfl, trivial⟩ ⟨Nat.zero_le _, none, L2, rfl, hF2, hS⟩ ?_
    rintro k w8 ⟨hk, o2, L2', ho2, hF2', hS⟩
    by_cases hkl : k < ps.length
    · have h1 := sumLen_take ps k hkl
      have h2 := sumLen_take_le ps (k + 1)
      have h3 := sealB_len (ps.take k)
      have h4 : (ps.take k).length = k := by simp; omega
      obtain ⟨b', off', rfl, -, hck⟩ := ha.get (j := k) (by simp; omega)
      simp only [List.getElem_map] at hck
      repeat (first | refine SemW.run tblOk ?_ | refine IntG.nw (by omega) ?_ | refine IntG.nu8 (by omega) ?_ | refine IntG.nu32 (by omega) ?_ | refine IntG.nu64 (by omega) ?_ | refine IntG.wr' rfl ?_ | refine Chk.mk (by omega) ?_ | (refine BrG.id ?_; first | with_reducible refine BrG.t ?_ | with_reducible refine BrG.f ?_ | with_reducible refine BrG.notG ?_ | with_reducible refine BrG.nn ?_ | with_reducible refine BrG.ns ?_ | refine BrG.pos (by omega) ?_ | refine BrG.neg (by omega) ?_) | refine Chk.mk (ptr_ok tblOk rfl rfl) ?_)
      refine hS.ldOld (by simp) (by simpa using hck) ?_
      repeat (first | refine SemW.run tblOk ?_ | refine IntG.nw (by omega) ?_ | refine IntG.nu8 (by omega) ?_ | refine IntG.nu32 (by omega) ?_ | refine IntG.nu64 (by omega) ?_ | refine IntG.wr' rfl ?_ | refine Chk.mk (by omega) ?_ | (refine BrG.id ?_; first | with_reducible refine BrG.t ?_ | with_reducible refine BrG.f ?_ | with_reducible refine BrG.notG ?_ | with_reducible refine BrG.nn ?_ | with_reducible refine BrG.ns ?_ | refine BrG.pos (by omega) ?_ | refine BrG.neg (by omega) ?_) | refine Chk.mk (ptr_ok tblOk rfl rfl) ?_)
      refine hS.al ?_
      intro b3 w9 _ hS
      repeat (first | refine SemW.run tblOk ?_ | refine IntG.nw (by omega) ?_ | refine IntG.nu8 (by omega) ?_ | refine IntG.nu32 (by omega) ?_ | refine IntG.nu64 (by omega) ?_ | refine IntG.wr' rfl ?_ | refine Chk.mk (by omega) ?_ | (refine BrG.id ?_; first | with_reducible refine BrG.t ?_ | with_reducible refine BrG.f ?_ | with_reducible refine BrG.notG ?_ | with_reducible refine BrG.nn ?_ | with_reducible refine BrG.ns ?_ | refine BrG.pos (by omega) ?_ | refine BrG.neg (by omega) ?_) | refine Chk.mk (ptr_ok tblOk rfl rfl) ?_)
      have hb3 : b3 ∉ keys ((bl2, logC f2 logN k false false) :: L2') := fun h => nodup_new hS (by simp only [keys, List.map_append]; exact List.mem_append_left _ h)
      refine (LogAppend_calm hF2' (hS.part (L := (bl2, logC f2 logN k false false) :: L2')) (ps := [ps[k]]) (hS.arr (b := b3) hb3) (by simp [okLens]; exact hall k hkl hkl) (by simp) (by rw [ho2]; simp [sumLen]; omega) (by simp; omega) (by omega)).mono ?_
      rintro _ w10 ⟨rfl, L2'', hF2'', hS'⟩
      have hS := (hS.call (L := (bl2, logC f2 logN k false false) :: L2') hS').sub (List.sublist_cons_self _ _)
      repeat (first | refine SemW.run tblOk ?_ | refine IntG.nw (by omega) ?_ | refine IntG.nu8 (by omega) ?_ | refine IntG.nu32 (by omega) ?_ | refine IntG.nu64 (by omega) ?_ | refine IntG.wr' rfl ?_ | refine Chk.mk (by omega) ?_ | (refine BrG.id ?_; first | with_reducible refine BrG.t ?_ | with_reducible refine BrG.f ?_ | with_reducible refine BrG.notG ?_ | with_reducible refine BrG.nn ?_ | with_reducible refine BrG.ns ?_ | refine BrG.pos (by omega) ?_ | refine BrG.neg (by omega) ?_) | refine Chk.mk (ptr_ok tblOk rfl rfl) ?_)
      refine ⟨k + 1, ⟨rfl, rfl, rfl, rfl, rfl, rfl, rfl, rfl, trivial⟩, ⟨by omega, _, L2'', ?_, hF2'', hS⟩, by omega⟩
      rw [sealB_succ ps k hkl, ho2]
      simp [sealB]
    · have hke : k = ps.length := by omega
      subst hke
      rw [List.take_length] at ho2
      repeat (first | refine SemW.run tblOk ?_ | refine IntG.nw (by omega) ?_ | refine IntG.nu8 (by omega) ?_ | refine IntG.nu32 (by omega) ?_ | refine IntG.nu64 (by omega) ?_ | refine IntG.wr' rfl ?_ | refine Chk.mk (by omega) ?_ | (refine BrG.id ?_; first | with_reducible refine BrG.t ?_ | with_reducible refine BrG.f ?_ | with_reducible refine BrG.notG ?_ | with_reducible refine BrG.nn ?_ | with_reducible refine BrG.ns ?_ | refine BrG.pos (by omega) ?_ | refine BrG.neg (by omega) ?_) | refine Chk.mk (ptr_ok tblOk rfl rfl) ?_)
      refine (Read_calm hF1' (hS.part (L := L1'))).mono ?_
      rintro _ w9 ⟨rfl, hS'⟩
      have hS := hS.call (L := L1') hS'
      repeat (first | refine SemW.run tblOk ?_ | refine IntG.nw (by omega) ?_ | refine IntG.nu8 (by omega) ?_ | refine IntG.nu32 (by omega) ?_ | refine IntG.nu64 (by omega) ?_ | refine IntG.wr' rfl ?_ | refine Chk.mk (by omega) ?_ | (refine BrG.id ?_; first | with_reducible refine BrG.t ?_ | with_reducible refine BrG.f ?_ | with_reducible refine BrG.notG ?_ | with_reducible refine BrG.nn ?_ | with_reducible refine BrG.ns ?_ | refine BrG.pos (by omega) ?_ | refine BrG.neg (by omega) ?_) | refine Chk.mk (ptr_ok tblOk rfl rfl) ?_)
      refine (Read_calm hF2' (hS.part (L := L2'))).mono ?_
      rintro _ w10 ⟨rfl, hS'⟩
      have hS := hS.call (L := L2') hS'
      rw [ho1, ho2]
      repeat (first | refine SemW.run tblOk ?_ | refine IntG.nw (by omega) ?_ | refine IntG.nu8 (by omega) ?_ | refine IntG.nu32 (by omega) ?_ | refine IntG.nu64 (by omega) ?_ | refine IntG.wr' rfl ?_ | refine Chk.mk (by omega) ?_ | (refine BrG.id ?_; first | with_reducible refine BrG.t ?_ | with_reducible refine BrG.f ?_ | with_reducible refine BrG.notG ?_ | with_reducible refine BrG.nn ?_ | with_reducible refine BrG.ns ?_ | refine BrG.pos (by omega) ?_ | refine BrG.neg (by omega) ?_) | refine Chk.mk (ptr_ok tblOk rfl rfl) ?_)
      refine SemW.draw tblOk mixed (fun w' => St w [] (((bl2, logC f2 logN ps.length false false) :: L2') ++ ((bl1, logC f1 logN ps.length false false) :: L1')) w')
        [] [0,1,2,3,4,5,6,8,9,10,7,11,12,13,14,15,16,17,19,20,21,18,22,23,24] (by kernel_rfl) hS.drew ?_
      have hS := hS.drew
      repeat (first | refine SemW.run tblOk ?_ | refine IntG.nw (by omega) ?_ | refine IntG.nu8 (by omega) ?_ | refine IntG.nu32 (by omega) ?_ | refine IntG.nu64 (by omega) ?_ | refine IntG.wr' rfl ?_ | refine Chk.mk (by omega) ?_ | (refine BrG.id ?_; first | with_reducible refine BrG.t ?_ | with_reducible refine BrG.f ?_ | with_reducible refine BrG.notG ?_ | with_reducible refine BrG.nn ?_ | with_reducible refine BrG.ns ?_ | refine BrG.pos (by omega) ?_ | refine BrG.neg (by omega) ?_) | refine Chk.mk (ptr_ok tblOk rfl rfl) ?_ | refine hS.ldC rfl ?_ | refine hS.ldnC rfl ?_)
      refine BrG.pos rfl ?_
      repeat (first | refine SemW.run tblOk ?_ | refine IntG.nw (by omega) ?_ | refine IntG.nu8 (by omega) ?_ | refine IntG.nu32 (by omega) ?_ | refine IntG.nu64 (by omega) ?_ | refine IntG.wr' rfl ?_ | refine Chk.mk (by omega) ?_ | (refine BrG.id ?_; first | with_reducible refine BrG.t ?_ | with_reducible refine BrG.f ?_ | with_reducible refine BrG.notG ?_ | with_reducible refine BrG.nn ?_ | with_reducible refine BrG.ns ?_ | refine BrG.pos (by omega) ?_ | refine BrG.neg (by omega) ?_) | refine Chk.mk (ptr_ok tblOk rfl rfl) ?_ | refine hS.ldC rfl ?_ | refine hS.ldnC rfl ?_)
      refine (Count_spec (hS.part (L := (bl1, logC f1 logN ps.length false false) :: L1'))).mono ?_
      rintro _ w11 ⟨rfl, hS'⟩
      have hS := hS.call0 hS'
      refine Chk.mk hS ?_
      repeat (first | refine SemW.run tblOk ?_ | refine IntG.nw (by omega) ?_ | refine IntG.nu8 (by omega) ?_ | refine IntG.nu32 (by omega) ?_ | refine IntG.nu64 (by omega) ?_ | refine IntG.wr' rfl ?_ | refine Chk.mk (by omega) ?_ | (refine BrG.id ?_; first | with_reducible refine BrG.t ?_ | with_reducible refine BrG.f ?_ | with_reducible refine BrG.notG ?_ | with_reducible refine BrG.nn ?_ | with_reducible refine BrG.ns ?_ | refine BrG.pos (by omega) ?_ | refine BrG.neg (by omega) ?_) | refine Chk.mk (ptr_ok tblOk rfl rfl) ?_ | refine hS.ldC rfl ?_ | refine hS.ldnC rfl ?_)
      refine (Count_spec (hS.part (L := (bl2, logC f2 logN ps.length false false) :: L2'))).mono ?_
      rintro _ w12 ⟨rfl, hS'⟩
      have hS := hS.call0 hS'
      refine Chk.mk hS ?_
      repeat (first | refine SemW.run tblOk ?_ | refine IntG.nw (by omega) ?_ | refine IntG.nu8 (by omega) ?_ | refine IntG.nu32 (by omega) ?_ | refine IntG.nu64 (by omega) ?_ | refine IntG.wr' rfl ?_ | refine Chk.mk (by omega) ?_ | (refine BrG.id ?_; first | with_reducible refine BrG.t ?_ | with_reducible refine BrG.f ?_ | with_reducible refine BrG.notG ?_ | with_reducible refine BrG.nn ?_ | with_reducible refine BrG.ns ?_ | refine BrG.pos (by omega) ?_ | refine BrG.neg (by omega) ?_) | refine Chk.mk (ptr_ok tblOk rfl rfl) ?_ | refine hS.ldC rfl ?_ | refine hS.ldnC rfl ?_)
      refine (Acts_calm hF2' (hS.part (L := L2'))).mono ?_
      rintro _ w13 ⟨rfl, hS'⟩
      have hS := hS.call (L := L2') hS'
      refine Chk.mk hS ?_
      repeat (first | refine SemW.run tblOk ?_ | refine IntG.nw (by omega) ?_ | refine IntG.nu8 (by omega) ?_ | refine IntG.nu32 (by omega) ?_ | refine IntG.nu64 (by omega) ?_ | refine IntG.wr' rfl ?_ | refine Chk.mk (by omega) ?_ | (refine BrG.id ?_; first | with_reducible refine BrG.t ?_ | with_reducible refine BrG.f ?_ | with_reducible refine BrG.notG ?_ | with_reducible refine BrG.nn ?_ | with_reducible refine BrG.ns ?_ | refine BrG.pos (by omega) ?_ | refine BrG.neg (by omega) ?_) | refine Chk.mk (ptr_ok tblOk rfl rfl) ?_ | refine hS.ldC rfl ?_ | refine hS.ldnC rfl ?_)
      refine ⟨?_, hS.nil⟩
      rw [decide_eq_true (show ((2 * ps.length : Nat) : Int) = 2 * (ps.length : Int) by omega)]
end Go.Proofs.Ytnmmiiffeenjbaa
