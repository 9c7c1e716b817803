/- tarmaclaw04.VfsPower. -/
import Derived.Test.YtnmmiiffeenjbaaArm
namespace Go.Proofs.Ytnmmiiffeenjbaa
open Go Go.Eng Go.Proofs

abbrev nX : Bytes := [120]
def fileL (o : Option (Bytes × Nat)) : List (Bytes × (Bytes × Nat)) := match o with | none => [] | some x => [(nX, x)]
/-- How many pieces stand in the file at round i. -/
def cntP (A : Nat) (kd : Int) (i : Nat) : Nat := min i (if kd = 2 then A + 1 else A)
def pieces (ps : List Bytes) (n : Nat) : Option (Bytes × Nat) := if n = 0 then none else some ((ps.take n).flatten, 0)
def pwM (ps : List Bytes) (A : Nat) (kd : Int) (i : Nat) : FSm := ⟨fileL (pieces ps (cntP A kd i)), [((A : Int), kd)], min i (A + 1), min i (A + 1), decide (A < i)⟩
theorem fget_fileL (o : Option (Bytes × Nat)) (fts : List (Int × Int)) (k j : Nat) (off : Bool) : fget ⟨fileL o, fts, k, j, off⟩ nX = o := by
  cases o <;> simp [fget, fileL, kget]
theorem kput_fileL (o : Option (Bytes × Nat)) (v : Bytes × Nat) : kput nX v (fileL o) = fileL (some v) := by
  cases o <;> simp [fileL, kput]
theorem pieces_getD (ps : List Bytes) (n : Nat) : (pieces ps n).getD ([], 0) = ((ps.take n).flatten, 0) := by
  unfold pieces; split
  · rename_i h; subst h; rfl
  · rfl
theorem pieces_put (ps : List Bytes) (n : Nat) (hn : n < ps.length) : some (((pieces ps n).getD ([], 0)).1 ++ [ps[n]].flatten, ((pieces ps n).getD ([], 0)).2) = pieces ps (n + 1) := by
  rw [pieces_getD]
  unfold pieces
  rw [if_neg (by omega), flat_succ ps n hn]
  simp
theorem app0 (m : FSm) (nm : Bytes) (ps : List Bytes) (hoff : m.off = false) (hn : named nm = true) (hf : fateOf m = 0) :
    appendM m nm ps = (0, ⟨kput nm (((fget m nm).getD ([], 0)).1 ++ ps.flatten, ((fget m nm).getD ([], 0)).2) m.files, m.fates, m.armed + 1, m.acts + 1, false⟩) := by
  unfold appendM acted; simp [hoff, hn, hf]
theorem app1 (m : FSm) (nm : Bytes) (ps : List Bytes) (hoff : m.off = false) (hn : named nm = true) (hf : fateOf m = 1) :
    appendM m nm ps = (7, ⟨m.files, m.fates, m.armed + 1, m.acts + 1, true⟩) := by
  unfold appendM acted; simp [hoff, hn, hf]
theorem app2 (m : FSm) (nm : Bytes) (ps : List Bytes) (hoff : m.off = false) (hn : named nm = true) (hf : fateOf m = 2) :
    appendM m nm ps = (7, ⟨kput nm (((fget m nm).getD ([], 0)).1 ++ ps.flatten, ((fget m nm).getD ([], 0)).2) m.files, m.fates, m.armed + 1, m.acts + 1, true⟩) := by
  unfold appendM acted; simp [hoff, hn, hf]
theorem app3 (m : FSm) (nm : Bytes) (ps : List Bytes) (hoff : m.off = false) (hn : named nm = true) (hf : fateOf m = 3) :
    appendM m nm ps = (6, ⟨m.files, m.fates, m.armed + 1, m.acts + 1, false⟩) := by
  unfold appendM acted; simp [hoff, hn, hf]
theorem pw_step (ps : List Bytes) (A : Nat) (kd : Int) (hkd : kd = 1 ∨ kd = 2) (i : Nat) (hi : i < ps.length) : appendM (pwM ps A kd i) nX [ps[i]] = (if i < A then 0 else 7, pwM ps A kd (i + 1)) := by
  have hnm : named nX = true := rfl
  by_cases h1 : A < i
  · have e1 : (pwM ps A kd i).off = true := decide_eq_true h1
    have e2 : pwM ps A kd (i + 1) = pwM ps A kd i := by
      unfold pwM cntP
      have g1 : min (i + 1) (A + 1) = min i (A + 1) := by omega
      have g2 : min (i + 1) (if kd = 2 then A + 1 else A) = min i (if kd = 2 then A + 1 else A) := by split <;> omega
      have g3 : decide (A < i + 1) = decide (A < i) := by simp [h1]; omega
      rw [g1, g2, g3]
    rw [e2]
    unfold appendM
    rw [if_pos e1, if_neg (by omega)]
  · have e1 : (pwM ps A kd i).off = false := decide_eq_false h1
    have hmi : min i (A + 1) = i := by omega
    have e3 : fateOf (pwM ps A kd i) = if i = A then kd else 0 := by
      unfold fateOf pwM
      simp only [hmi, kget, Int.ofNat_inj]
      split <;> rfl
    have e4 : fget (pwM ps A kd i) nX = pieces ps (cntP A kd i) := fget_fileL _ _ _ _ _
    have hci : cntP A kd i = i := by unfold cntP; split <;> omega
    have hfm : kput nX (((fget (pwM ps A kd i) nX).getD ([], 0)).1 ++ [ps[i]].flatten, ((fget (pwM ps A kd i) nX).getD ([], 0)).2) (pwM ps A kd i).files = fileL (pieces ps (i + 1)) := by
      rw [e4]
      show kput nX _ (fileL (pieces ps (cntP A kd i))) = _
      rw [kput_fileL]
      congr 1
      rw [hci]; exact pieces_put ps i hi
    have har : (pwM ps A kd i).armed = i := hmi
    have hat : (pwM ps A kd i).acts = i := hmi
    have hft : (pwM ps A kd i).fates = [((A : Int), kd)] := rfl
    by_cases h2 : i = A
    · rw [if_pos h2] at e3
      have g1 : min (i + 1) (A + 1) = i + 1 := by omega
      have g3 : decide (A < i + 1) = true := by simp; omega
      rw [if_neg (show ¬ i < A by omega)]
      rcases hkd with rfl | rfl
      · rw [app1 _ _ _ e1 hnm e3, har, hat, hft]
        have g2 : cntP A 1 (i + 1) = i := by unfold cntP; simp; omega
        unfold pwM
        rw [g1, g2, g3, hci]
      · rw [app2 _ _ _ e1 hnm e3, hfm, har, hat, hft]
        have g2 : cntP A 2 (i + 1) = i + 1 := by unfold cntP; simp; omega
        unfold pwM
        rw [g1, g2, g3]
    · rw [if_neg h2] at e3
      rw [app0 _ _ _ e1 hnm e3, hfm, har, hat, hft, if_pos (show i < A by omega)]
      have g1 : min (i + 1) (A + 1) = i + 1 := by omega
      have g2 : cntP A kd (i + 1) = i + 1 := by unfold cntP; split <;> omega
      have g3 : decide (A < i + 1) = false := by simp; omega
      unfold pwM
      rw [g1, g2, g3]

theorem Crash_files {w : World} {b : Nat} {m : FSm} {nm : Bytes} {o : Option (Bytes × Nat)} {L : Heap} (hm : m.files = (oneM nm o 0).files) (hF : FSo b m L) (hh : Holds L w) (hn : named nm = true) {a : Option Addr} {cap : Nat} {cuts : List Int} (ha : Arr w (keys L) a (cuts.map intV)) (hcl : cuts.length ≤ 1099511627776)
    (hsy : (o.getD ([], 0)).2 ≤ (o.getD ([], 0)).1.length) (htl : (o.getD ([], 0)).1.length ≤ 1099511627776) :
    Cl Try.prog f_vfs_FS_Crash [ptr b, .slice a cuts.length cap] w fun v w' => ∃ (g : Nat) (Lg : Heap), v = ptr g ∧ FSo g (oneM nm (o.map fun x => cutFile x (keepOf x cuts 0)) 0) Lg ∧ St w (keys L) (Lg ++ L) w' := by
  have hf : ∀ n, fileOf m.files n = if n = nm then o.getD ([], 0) else ([], 0) := by
    intro n
    rw [hm]
    cases o <;> simp [fileOf, oneM, kget]
    split <;> rfl
  have hnl : nm.length ≤ 40 := by simp [named] at hn; exact hn.2
  have hmx : 40 ≤ maxLen := by decide
  refine (Crash_spec hF hh ha hcl ?_ ?_ ?_ ?_).mono ?_
  · rw [hm]; cases o <;> simp [oneM]
  · intro x hx
    rw [hm] at hx
    cases o <;> simp [oneM] at hx
    subst hx; show nm.length ≤ maxLen; omega
  · intro n; rw [hf]; split
    · exact hsy
    · simp
  · intro n; rw [hf]; split
    · exact htl
    · simp
  · rintro v w' ⟨ns, g, Lg, hp, rfl, hg, hst⟩
    refine ⟨g, Lg, rfl, ?_, hst⟩
    rw [hm] at hp
    cases o with
    | none =>
      have : ns = [] := by simpa [oneM] using hp
      subst this
      exact hg
    | some x =>
      have : ns = [nm] := by simpa [oneM] using hp
      subst this
      have e : crashF m.files [nm] cuts [nm].length = [(nm, cutFile x (keepOf x cuts 0))] := by
        simp [crashF, hf, kput]
      rw [e] at hg
      exact hg
theorem cut_all (T : Bytes) (h : T.length ≤ 1152921504606846976) : cutFile (T, 0) (keepOf (T, 0) [1152921504606846976] 0) = (T, T.length) := by
  have : keepOf (T, 0) [1152921504606846976] 0 = T.length := by
    unfold keepOf
    rw [if_pos (by simp)]
    simp only [List.getD_cons_zero]
    have : (1152921504606846976 : Int).toNat = 1152921504606846976 := rfl
    rw [this]; omega
  rw [this]; unfold cutFile
  rw [Nat.zero_add, List.take_length]
theorem pw0 (ps : List Bytes) (A : Nat) (kd : Int) (hkd : kd = 1 ∨ kd = 2) : ({ (⟨[], [], 0, 0, false⟩ : FSm) with fates := armK [((A : Int), kd)] [((A : Int), kd)].length, armed := 0 } : FSm) = pwM ps A kd 0 := by
  rcases hkd with rfl | rfl <;> simp [pwM, cntP, pieces, fileL, armK, kget, kput]


set_option maxHeartbeats 2000000 in
set_option maxRecDepth 4000 in
theorem VfsPower_spec {w : World} {a0 : Option Addr} {c0 : Nat} {ps : List Bytes} {n : Int} {bb : Bool} (ha0 : Arr w [] a0 (ps.map Str)) (hb : sumLen ps + ps.length ≤ 1048576) :
    Cl Try.prog f_tarmaclaw04_VfsPower [.slice a0 ps.length c0, .int .i64 n, .bool bb] w fun v w' => v = .bool true ∧ St w [] [] w' := by
  have hS := St.start w
  refine en_tarmaclaw04_VfsPower rfl ?_
  repeat (first | refine SemW.run tblOk ?_ | refine IntG.nw (by omega) ?_ | refine IntG.nu8 (by omega) ?_ | refine IntG.nu32 (by omega) ?_ | refine IntG.nu64 (by omega) ?_ | refine IntG.wr' rfl ?_ | refine Chk.mk (by omega) ?_ | (refine BrG.id ?_; first | with_reducible refine BrG.t ?_ | with_reducible refine BrG.f ?_ | with_reducible refine BrG.notG ?_ | with_reducible refine BrG.nn ?_ | with_reducible refine BrG.ns ?_ | refine BrG.pos (by omega) ?_ | refine BrG.neg (by omega) ?_) | refine Chk.mk (ptr_ok tblOk rfl rfl) ?_)
  refine lives4_spec.mono ?_
  rintro _ w1 ⟨rfl, hS'⟩
  have hS := hS.call0 hS'
  repeat (first | refine SemW.run tblOk ?_ | refine IntG.nw (by omega) ?_ | refine IntG.nu8 (by omega) ?_ | refine IntG.nu32 (by omega) ?_ | refine IntG.nu64 (by omega) ?_ | refine IntG.wr' rfl ?_ | refine Chk.mk (by omega) ?_ | (refine BrG.id ?_; first | with_reducible refine BrG.t ?_ | with_reducible refine BrG.f ?_ | with_reducible refine BrG.notG ?_ | with_reducible refine BrG.nn ?_ | with_reducible refine BrG.ns ?_ | refine BrG.pos (by omega) ?_ | refine BrG.neg (by omega) ?_) | refine Chk.mk (ptr_ok tblOk rfl rfl) ?_)
  refine New_spec.mono ?_
  rintro _ w2 ⟨f, L, rfl, hf, hF, hS'⟩
  have hS := hS.callNew hS'
  rw [List.append_nil] at hS
  repeat (first | refine SemW.run tblOk ?_ | refine IntG.nw (by omega) ?_ | refine IntG.nu8 (by omega) ?_ | refine IntG.nu32 (by omega) ?_ | refine IntG.nu64 (by omega) ?_ | refine IntG.wr' rfl ?_ | refine Chk.mk (by omega) ?_ | (refine BrG.id ?_; first | with_reducible refine BrG.t ?_ | with_reducible refine BrG.f ?_ | with_reducible refine BrG.notG ?_ | with_reducible refine BrG.nn ?_ | with_reducible refine BrG.ns ?_ | refine BrG.pos (by omega) ?_ | refine BrG.neg (by omega) ?_) | refine Chk.mk (ptr_ok tblOk rfl rfl) ?_)
  obtain ⟨q, hq, -⟩ := wrapU_range .u64 rfl n
  rw [hq]
  have htm : (q : Int).tmod 12 = ((q % 12 : Nat) : Int) := by
    rw [Int.tmod_eq_emod_of_nonneg (by omega)]; omega
  have hA12 : q % 12 < 12 := Nat.mod_lt _ (by omega)
  rw [htm]
  generalize q % 12 = A at hA12 ⊢
  have hw1 : IntKind.i64.wrap (A : Int) = (A : Int) := by
    have : A < 12 := hA12
    unfold IntKind.wrap; simp [IntKind.signed, IntKind.bits]; omega
  repeat (first | refine SemW.run tblOk ?_ | refine IntG.nw (by omega) ?_ | refine IntG.nu8 (by omega) ?_ | refine IntG.nu32 (by omega) ?_ | refine IntG.nu64 (by omega) ?_ | refine IntG.wr' rfl ?_ | refine Chk.mk (by omega) ?_ | (refine BrG.id ?_; first | with_reducible refine BrG.t ?_ | with_reducible refine BrG.f ?_ | with_reducible refine BrG.notG ?_ | with_reducible refine BrG.nn ?_ | with_reducible refine BrG.ns ?_ | refine BrG.pos (by omega) ?_ | refine BrG.neg (by omega) ?_) | refine Chk.mk (ptr_ok tblOk rfl rfl) ?_)
  cases bb with
  | false =>
    repeat (first | refine SemW.run tblOk ?_ | refine IntG.nw (by omega) ?_ | refine IntG.nu8 (by omega) ?_ | refine IntG.nu32 (by omega) ?_ | refine IntG.nu64 (by omega) ?_ | refine IntG.wr' rfl ?_ | refine Chk.mk (by omega) ?_ | (refine BrG.id ?_; first | with_reducible refine BrG.t ?_ | with_reducible refine BrG.f ?_ | with_reducible refine BrG.notG ?_ | with_reducible refine BrG.nn ?_ | with_reducible refine BrG.ns ?_ | refine BrG.pos (by omega) ?_ | refine BrG.neg (by omega) ?_) | refine Chk.mk (ptr_ok tblOk rfl rfl) ?_)
    refine hS.al ?_
    intro r w3 _ hS
    repeat (first | refine SemW.run tblOk ?_ | refine IntG.nw (by omega) ?_ | refine IntG.nu8 (by omega) ?_ | refine IntG.nu32 (by omega) ?_ | refine IntG.nu64 (by omega) ?_ | refine IntG.wr' rfl ?_ | refine Chk.mk (by omega) ?_ | (refine BrG.id ?_; first | with_reducible refine BrG.t ?_ | with_reducible refine BrG.f ?_ | with_reducible refine BrG.notG ?_ | with_reducible refine BrG.nn ?_ | with_reducible refine BrG.ns ?_ | refine BrG.pos (by omega) ?_ | refine BrG.neg (by omega) ?_) | refine Chk.mk (ptr_ok tblOk rfl rfl) ?_)
    refine (Arm_spec hF (hS.part (L := L)) (fs := [((A : Int), 1)]) (show Arr _ _ _ (fateC [((A : Int), 1)]) from hS.arr (b := r) (nodup_new hS)) (by simp)).mono ?_
    rintro _ w4 ⟨L1, hF, hS'⟩
    have hS := (hS.call (L := L) hS').sub (List.sublist_cons_self _ _)
    rw [pw0 ps A 1 (by simp)] at hF
    repeat (first | refine SemW.run tblOk ?_ | refine IntG.nw (by omega) ?_ | refine IntG.nu8 (by omega) ?_ | refine IntG.nu32 (by omega) ?_ | refine IntG.nu64 (by omega) ?_ | refine IntG.wr' rfl ?_ | refine Chk.mk (by omega) ?_ | (refine BrG.id ?_; first | with_reducible refine BrG.t ?_ | with_reducible refine BrG.f ?_ | with_reducible refine BrG.notG ?_ | with_reducible refine BrG.nn ?_ | with_reducible refine BrG.ns ?_ | refine BrG.pos (by omega) ?_ | refine BrG.neg (by omega) ?_) | refine Chk.mk (ptr_ok tblOk rfl rfl) ?_)
    refine SemW.loop (fun k : Nat => [(0, .slice a0 ps.length c0), (2, .bool false), (7, ptr f), (8, .int .i64 A), (10, Str (ps.take (cntP A 1 k)).flatten), (34, .slice a0 ps.length c0), (35, .int .i64 ps.length), (36, .int .i64 k)])
      (fun k w' => k ≤ ps.length ∧ ∃ L, FSo f (pwM ps A 1 k) L ∧ St w [] L w') (fun k => ps.length - k) 0
      ⟨rfl, rfl, rfl, rfl, rfl, rfl, rfl, rfl, trivial⟩ ⟨Nat.zero_le _, L1, hF, hS⟩ ?_
    rintro k w5 ⟨hk, L2, hF, hS⟩
    by_cases hkl : k < ps.length
    · have h1 := sumLen_take ps k hkl
      have h2 := sumLen_take_le ps (k + 1)
      have hfl := flat_len (ps.take (cntP A 1 k))
      have hfl2 := sumLen_take_le ps (cntP A 1 k)
      obtain ⟨b', off', rfl, -, hck⟩ := ha0.get (j := k) (by simp; omega)
      simp only [List.getElem_map] at hck
      repeat (first | refine SemW.run tblOk ?_ | refine IntG.nw (by omega) ?_ | refine IntG.nu8 (by omega) ?_ | refine IntG.nu32 (by omega) ?_ | refine IntG.nu64 (by omega) ?_ | refine IntG.wr' rfl ?_ | refine Chk.mk (by omega) ?_ | (refine BrG.id ?_; first | with_reducible refine BrG.t ?_ | with_reducible refine BrG.f ?_ | with_reducible refine BrG.notG ?_ | with_reducible refine BrG.nn ?_ | with_reducible refine BrG.ns ?_ | refine BrG.pos (by omega) ?_ | refine BrG.neg (by omega) ?_) | refine Chk.mk (ptr_ok tblOk rfl rfl) ?_)
      refine hS.ldOld (by simp) (by simpa using hck) ?_
      repeat (first | refine SemW.run tblOk ?_ | refine IntG.nw (by omega) ?_ | refine IntG.nu8 (by omega) ?_ | refine IntG.nu32 (by omega) ?_ | refine IntG.nu64 (by omega) ?_ | refine IntG.wr' rfl ?_ | refine Chk.mk (by omega) ?_ | (refine BrG.id ?_; first | with_reducible refine BrG.t ?_ | with_reducible refine BrG.f ?_ | with_reducible refine BrG.notG ?_ | with_reducible refine BrG.nn ?_ | with_reducible refine BrG.ns ?_ | refine BrG.pos (by omega) ?_ | refine BrG.neg (by omega) ?_) | refine Chk.mk (ptr_ok tblOk rfl rfl) ?_)
      refine hS.al ?_
      intro r2 w6 _ hS
      repeat (first | refine SemW.run tblOk ?_ | refine IntG.nw (by omega) ?_ | refine IntG.nu8 (by omega) ?_ | refine IntG.nu32 (by omega) ?_ | refine IntG.nu64 (by omega) ?_ | refine IntG.wr' rfl ?_ | refine Chk.mk (by omega) ?_ | (refine BrG.id ?_; first | with_reducible refine BrG.t ?_ | with_reducible refine BrG.f ?_ | with_reducible refine BrG.notG ?_ | with_reducible refine BrG.nn ?_ | with_reducible refine BrG.ns ?_ | refine BrG.pos (by omega) ?_ | refine BrG.neg (by omega) ?_) | refine Chk.mk (ptr_ok tblOk rfl rfl) ?_)
      refine (Append_spec hF (hS.part (L := L2)) nX (ps := [ps[k]]) (hS.arr (b := r2) (nodup_new hS)) (by simp) (by simp) ?_ ?_ ?_).mono ?_
      · have e : sumLen [ps[k]] = ps[k].length := by simp [sumLen]
        have e2 : fget (pwM ps A 1 k) nX = pieces ps (cntP A 1 k) := fget_fileL _ _ _ _ _
        rw [e2, pieces_getD, e]
        simp only; omega
      · show min k (A + 1) + 1 ≤ _; omega
      · show min k (A + 1) + 1 ≤ _; omega
      rw [pw_step ps A 1 (by simp) k hkl]
      by_cases hkA : k < A
      · rw [if_pos hkA]
        rintro v w7 ⟨hv, L3, hF, hS'⟩
        have hv : v = .int .i64 0 := hv
        subst hv
        have hS := (hS.call (L := L2) hS').sub (List.sublist_cons_self _ _)
        repeat (first | refine SemW.run tblOk ?_ | refine IntG.nw (by omega) ?_ | refine IntG.nu8 (by omega) ?_ | refine IntG.nu32 (by omega) ?_ | refine IntG.nu64 (by omega) ?_ | refine IntG.wr' rfl ?_ | refine Chk.mk (by omega) ?_ | (refine BrG.id ?_; first | with_reducible refine BrG.t ?_ | with_reducible refine BrG.f ?_ | with_reducible refine BrG.notG ?_ | with_reducible refine BrG.nn ?_ | with_reducible refine BrG.ns ?_ | refine BrG.pos (by omega) ?_ | refine BrG.neg (by omega) ?_) | refine Chk.mk (ptr_ok tblOk rfl rfl) ?_)
        refine Chk.mk (und_of tblOk (t := T_bool) rfl) ?_
        repeat (first | refine SemW.run tblOk ?_ | refine IntG.nw (by omega) ?_ | refine IntG.nu8 (by omega) ?_ | refine IntG.nu32 (by omega) ?_ | refine IntG.nu64 (by omega) ?_ | refine IntG.wr' rfl ?_ | refine Chk.mk (by omega) ?_ | (refine BrG.id ?_; first | with_reducible refine BrG.t ?_ | with_reducible refine BrG.f ?_ | with_reducible refine BrG.notG ?_ | with_reducible refine BrG.nn ?_ | with_reducible refine BrG.ns ?_ | refine BrG.pos (by omega) ?_ | refine BrG.neg (by omega) ?_) | refine Chk.mk (ptr_ok tblOk rfl rfl) ?_)
        refine BrG.eqt (by simp; try omega) ?_
        repeat (first | refine SemW.run tblOk ?_ | refine IntG.nw (by omega) ?_ | refine IntG.nu8 (by omega) ?_ | refine IntG.nu32 (by omega) ?_ | refine IntG.nu64 (by omega) ?_ | refine IntG.wr' rfl ?_ | refine Chk.mk (by omega) ?_ | (refine BrG.id ?_; first | with_reducible refine BrG.t ?_ | with_reducible refine BrG.f ?_ | with_reducible refine BrG.notG ?_ | with_reducible refine BrG.nn ?_ | with_reducible refine BrG.ns ?_ | refine BrG.pos (by omega) ?_ | refine BrG.neg (by omega) ?_) | refine Chk.mk (ptr_ok tblOk rfl rfl) ?_)
        refine (Down_spec hF (hS.part (L := L3))).mono ?_
        rw [show (pwM ps A 1 (k + 1)).off = false from decide_eq_false (by omega)]
        rintro _ w8 ⟨rfl, hS'⟩
        have hS := hS.call (L := L3) hS'
        repeat (first | refine SemW.run tblOk ?_ | refine IntG.nw (by omega) ?_ | refine IntG.nu8 (by omega) ?_ | refine IntG.nu32 (by omega) ?_ | refine IntG.nu64 (by omega) ?_ | refine IntG.wr' rfl ?_ | refine Chk.mk (by omega) ?_ | (refine BrG.id ?_; first | with_reducible refine BrG.t ?_ | with_reducible refine BrG.f ?_ | with_reducible refine BrG.notG ?_ | with_reducible refine BrG.nn ?_ | with_reducible refine BrG.ns ?_ | refine BrG.pos (by omega) ?_ | refine BrG.neg (by omega) ?_) | refine Chk.mk (ptr_ok tblOk rfl rfl) ?_)
        refine Chk.mk (und_of tblOk (t := T_bool) rfl) ?_
        repeat (first | refine SemW.run tblOk ?_ | refine IntG.nw (by omega) ?_ | refine IntG.nu8 (by omega) ?_ | refine IntG.nu32 (by omega) ?_ | refine IntG.nu64 (by omega) ?_ | refine IntG.wr' rfl ?_ | refine Chk.mk (by omega) ?_ | (refine BrG.id ?_; first | with_reducible refine BrG.t ?_ | with_reducible refine BrG.f ?_ | with_reducible refine BrG.notG ?_ | with_reducible refine BrG.nn ?_ | with_reducible refine BrG.ns ?_ | refine BrG.pos (by omega) ?_ | refine BrG.neg (by omega) ?_) | refine Chk.mk (ptr_ok tblOk rfl rfl) ?_)
        refine BrG.eqt (by simp; try omega) ?_
        repeat (first | refine SemW.run tblOk ?_ | refine IntG.nw (by omega) ?_ | refine IntG.nu8 (by omega) ?_ | refine IntG.nu32 (by omega) ?_ | refine IntG.nu64 (by omega) ?_ | refine IntG.wr' rfl ?_ | refine Chk.mk (by omega) ?_ | (refine BrG.id ?_; first | with_reducible refine BrG.t ?_ | with_reducible refine BrG.f ?_ | with_reducible refine BrG.notG ?_ | with_reducible refine BrG.nn ?_ | with_reducible refine BrG.ns ?_ | refine BrG.pos (by omega) ?_ | refine BrG.neg (by omega) ?_) | refine Chk.mk (ptr_ok tblOk rfl rfl) ?_)
        refine ⟨k + 1, ⟨rfl, rfl, rfl, rfl, ?_, rfl, rfl, rfl, trivial⟩, ⟨by omega, L3, hF, hS⟩, by omega⟩
        show _ = (_ : Value)
        rw [show cntP A 1 (k + 1) = k + 1 by unfold cntP; simp; omega, show cntP A 1 k = k by unfold cntP; simp; omega, flat_succ ps k hkl]
      · rw [if_neg hkA]
        rintro v w7 ⟨hv, L3, hF, hS'⟩
        have hv : v = .int .i64 7 := hv
        subst hv
        have hS := (hS.call (L := L2) hS').sub (List.sublist_cons_self _ _)
        repeat (first | refine SemW.run tblOk ?_ | refine IntG.nw (by omega) ?_ | refine IntG.nu8 (by omega) ?_ | refine IntG.nu32 (by omega) ?_ | refine IntG.nu64 (by omega) ?_ | refine IntG.wr' rfl ?_ | refine Chk.mk (by omega) ?_ | (refine BrG.id ?_; first | with_reducible refine BrG.t ?_ | with_reducible refine BrG.f ?_ | with_reducible refine BrG.notG ?_ | with_reducible refine BrG.nn ?_ | with_reducible refine BrG.ns ?_ | refine BrG.pos (by omega) ?_ | refine BrG.neg (by omega) ?_) | refine Chk.mk (ptr_ok tblOk rfl rfl) ?_)
        refine Chk.mk (und_of tblOk (t := T_bool) rfl) ?_
        repeat (first | refine SemW.run tblOk ?_ | refine IntG.nw (by omega) ?_ | refine IntG.nu8 (by omega) ?_ | refine IntG.nu32 (by omega) ?_ | refine IntG.nu64 (by omega) ?_ | refine IntG.wr' rfl ?_ | refine Chk.mk (by omega) ?_ | (refine BrG.id ?_; first | with_reducible refine BrG.t ?_ | with_reducible refine BrG.f ?_ | with_reducible refine BrG.notG ?_ | with_reducible refine BrG.nn ?_ | with_reducible refine BrG.ns ?_ | refine BrG.pos (by omega) ?_ | refine BrG.neg (by omega) ?_) | refine Chk.mk (ptr_ok tblOk rfl rfl) ?_)
        refine BrG.eqt (by simp; try omega) ?_
        repeat (first | refine SemW.run tblOk ?_ | refine IntG.nw (by omega) ?_ | refine IntG.nu8 (by omega) ?_ | refine IntG.nu32 (by omega) ?_ | refine IntG.nu64 (by omega) ?_ | refine IntG.wr' rfl ?_ | refine Chk.mk (by omega) ?_ | (refine BrG.id ?_; first | with_reducible refine BrG.t ?_ | with_reducible refine BrG.f ?_ | with_reducible refine BrG.notG ?_ | with_reducible refine BrG.nn ?_ | with_reducible refine BrG.ns ?_ | refine BrG.pos (by omega) ?_ | refine BrG.neg (by omega) ?_) | refine Chk.mk (ptr_ok tblOk rfl rfl) ?_)
        refine (Down_spec hF (hS.part (L := L3))).mono ?_
        rw [show (pwM ps A 1 (k + 1)).off = true from decide_eq_true (by omega)]
        rintro _ w8 ⟨rfl, hS'⟩
        have hS := hS.call (L := L3) hS'
        repeat (first | refine SemW.run tblOk ?_ | refine IntG.nw (by omega) ?_ | refine IntG.nu8 (by omega) ?_ | refine IntG.nu32 (by omega) ?_ | refine IntG.nu64 (by omega) ?_ | refine IntG.wr' rfl ?_ | refine Chk.mk (by omega) ?_ | (refine BrG.id ?_; first | with_reducible refine BrG.t ?_ | with_reducible refine BrG.f ?_ | with_reducible refine BrG.notG ?_ | with_reducible refine BrG.nn ?_ | with_reducible refine BrG.ns ?_ | refine BrG.pos (by omega) ?_ | refine BrG.neg (by omega) ?_) | refine Chk.mk (ptr_ok tblOk rfl rfl) ?_)
        refine Chk.mk (und_of tblOk (t := T_bool) rfl) ?_
        repeat (first | refine SemW.run tblOk ?_ | refine IntG.nw (by omega) ?_ | refine IntG.nu8 (by omega) ?_ | refine IntG.nu32 (by omega) ?_ | refine IntG.nu64 (by omega) ?_ | refine IntG.wr' rfl ?_ | refine Chk.mk (by omega) ?_ | (refine BrG.id ?_; first | with_reducible refine BrG.t ?_ | with_reducible refine BrG.f ?_ | with_reducible refine BrG.notG ?_ | with_reducible refine BrG.nn ?_ | with_reducible refine BrG.ns ?_ | refine BrG.pos (by omega) ?_ | refine BrG.neg (by omega) ?_) | refine Chk.mk (ptr_ok tblOk rfl rfl) ?_)
        refine BrG.eqt (by simp; try omega) ?_
        repeat (first | refine SemW.run tblOk ?_ | refine IntG.nw (by omega) ?_ | refine IntG.nu8 (by omega) ?_ | refine IntG.nu32 (by omega) ?_ | refine IntG.nu64 (by omega) ?_ | refine IntG.wr' rfl ?_ | refine Chk.mk (by omega) ?_ | (refine BrG.id ?_; first | with_reducible refine BrG.t ?_ | with_reducible refine BrG.f ?_ | with_reducible refine BrG.notG ?_ | with_reducible refine BrG.nn ?_ | with_reducible refine BrG.ns ?_ | refine BrG.pos (by omega) ?_ | refine BrG.neg (by omega) ?_) | refine Chk.mk (ptr_ok tblOk rfl rfl) ?_)
        by_cases hke : k = A
        · repeat (first | refine SemW.run tblOk ?_ | refine IntG.nw (by omega) ?_ | refine IntG.nu8 (by omega) ?_ | refine IntG.nu32 (by omega) ?_ | refine IntG.nu64 (by omega) ?_ | refine IntG.wr' rfl ?_ | refine Chk.mk (by omega) ?_ | (refine BrG.id ?_; first | with_reducible refine BrG.t ?_ | with_reducible refine BrG.f ?_ | with_reducible refine BrG.notG ?_ | with_reducible refine BrG.nn ?_ | with_reducible refine BrG.ns ?_ | refine BrG.pos (by omega) ?_ | refine BrG.neg (by omega) ?_) | refine Chk.mk (ptr_ok tblOk rfl rfl) ?_)
          refine ⟨k + 1, ⟨rfl, rfl, rfl, rfl, ?_, rfl, rfl, rfl, trivial⟩, ⟨by omega, L3, hF, hS⟩, by omega⟩
          show _ = (_ : Value)
          first
            | rw [show cntP A 1 (k + 1) = cntP A 1 k by unfold cntP; simp; omega]
            | rw [show cntP A 1 (k + 1) = k + 1 by unfold cntP; simp; omega, show cntP A 1 k = k by unfold cntP; simp; omega, flat_succ ps k hkl]
        · repeat (first | refine SemW.run tblOk ?_ | refine IntG.nw (by omega) ?_ | refine IntG.nu8 (by omega) ?_ | refine IntG.nu32 (by omega) ?_ | refine IntG.nu64 (by omega) ?_ | refine IntG.wr' rfl ?_ | refine Chk.mk (by omega) ?_ | (refine BrG.id ?_; first | with_reducible refine BrG.t ?_ | with_reducible refine BrG.f ?_ | with_reducible refine BrG.notG ?_ | with_reducible refine BrG.nn ?_ | with_reducible refine BrG.ns ?_ | refine BrG.pos (by omega) ?_ | refine BrG.neg (by omega) ?_) | refine Chk.mk (ptr_ok tblOk rfl rfl) ?_)
          refine ⟨k + 1, ⟨rfl, rfl, rfl, rfl, ?_, rfl, rfl, rfl, trivial⟩, ⟨by omega, L3, hF, hS⟩, by omega⟩
          show _ = (_ : Value)
          rw [show cntP A 1 (k + 1) = cntP A 1 k by unfold cntP; simp; omega]
    · have hke : k = ps.length := by omega
      have hfl := flat_len (ps.take (cntP A 1 k))
      have hfl2 := sumLen_take_le ps (cntP A 1 k)
      have hfm : (pwM ps A 1 k).files = (oneM nX (pieces ps (cntP A 1 k)) 0).files := rfl
      have hc0 : (cntP A 1 k = 0) ↔ (ps.length = 0 ∨ (A = 0 ∧ 1 = (1 : Int))) := by
        unfold cntP
        first
          | rw [if_pos (by decide : (1 : Int) = 2)]; omega
          | rw [if_neg (by decide : ¬ (1 : Int) = 2)]; omega
      have hpd := pieces_getD ps (cntP A 1 k)
      have hRd : ∃ t e, findM (pwM ps A 1 k) nX = ((t, 0), e) ∧ (e = 7 ↔ A < k) := by
        unfold findM
        by_cases hAk : A < k
        · rw [if_pos (show (pwM ps A 1 k).off = true from decide_eq_true hAk)]
          exact ⟨[], 7, rfl, by simp [hAk]⟩
        · rw [if_neg (show ¬ (pwM ps A 1 k).off = true from by rw [show (pwM ps A 1 k).off = false from decide_eq_false hAk]; simp)]
          rw [show fget (pwM ps A 1 k) nX = pieces ps (cntP A 1 k) from fget_fileL _ _ _ _ _]
          unfold pieces
          by_cases hz : cntP A 1 k = 0
          · rw [if_pos hz]
            exact ⟨[], 5, rfl, by simp [hAk]⟩
          · rw [if_neg hz]
            exact ⟨_, 0, rfl, by simp [hAk]⟩
      obtain ⟨t, e, hfe, hee⟩ := hRd
      repeat (first | refine SemW.run tblOk ?_ | refine IntG.nw (by omega) ?_ | refine IntG.nu8 (by omega) ?_ | refine IntG.nu32 (by omega) ?_ | refine IntG.nu64 (by omega) ?_ | refine IntG.wr' rfl ?_ | refine Chk.mk (by omega) ?_ | (refine BrG.id ?_; first | with_reducible refine BrG.t ?_ | with_reducible refine BrG.f ?_ | with_reducible refine BrG.notG ?_ | with_reducible refine BrG.nn ?_ | with_reducible refine BrG.ns ?_ | refine BrG.pos (by omega) ?_ | refine BrG.neg (by omega) ?_) | refine Chk.mk (ptr_ok tblOk rfl rfl) ?_)
      refine (Read_spec hF (hS.part (L := L2)) nX).mono ?_
      rw [hfe]
      rintro _ w6 ⟨rfl, hS'⟩
      have hS := hS.call (L := L2) hS'
      repeat (first | refine SemW.run tblOk ?_ | refine IntG.nw (by omega) ?_ | refine IntG.nu8 (by omega) ?_ | refine IntG.nu32 (by omega) ?_ | refine IntG.nu64 (by omega) ?_ | refine IntG.wr' rfl ?_ | refine Chk.mk (by omega) ?_ | (refine BrG.id ?_; first | with_reducible refine BrG.t ?_ | with_reducible refine BrG.f ?_ | with_reducible refine BrG.notG ?_ | with_reducible refine BrG.nn ?_ | with_reducible refine BrG.ns ?_ | refine BrG.pos (by omega) ?_ | refine BrG.neg (by omega) ?_) | refine Chk.mk (ptr_ok tblOk rfl rfl) ?_)
      refine (Down_spec hF (hS.part (L := L2))).mono ?_
      rw [show (pwM ps A 1 k).off = decide (A < k) from rfl]
      rintro _ w7 ⟨rfl, hS'⟩
      have hS := hS.call (L := L2) hS'
      repeat (first | refine SemW.run tblOk ?_ | refine IntG.nw (by omega) ?_ | refine IntG.nu8 (by omega) ?_ | refine IntG.nu32 (by omega) ?_ | refine IntG.nu64 (by omega) ?_ | refine IntG.wr' rfl ?_ | refine Chk.mk (by omega) ?_ | (refine BrG.id ?_; first | with_reducible refine BrG.t ?_ | with_reducible refine BrG.f ?_ | with_reducible refine BrG.notG ?_ | with_reducible refine BrG.nn ?_ | with_reducible refine BrG.ns ?_ | refine BrG.pos (by omega) ?_ | refine BrG.neg (by omega) ?_) | refine Chk.mk (ptr_ok tblOk rfl rfl) ?_)
      refine Chk.mk (und_of tblOk (t := T_bool) rfl) ?_
      repeat (first | refine SemW.run tblOk ?_ | refine IntG.nw (by omega) ?_ | refine IntG.nu8 (by omega) ?_ | refine IntG.nu32 (by omega) ?_ | refine IntG.nu64 (by omega) ?_ | refine IntG.wr' rfl ?_ | refine Chk.mk (by omega) ?_ | (refine BrG.id ?_; first | with_reducible refine BrG.t ?_ | with_reducible refine BrG.f ?_ | with_reducible refine BrG.notG ?_ | with_reducible refine BrG.nn ?_ | with_reducible refine BrG.ns ?_ | refine BrG.pos (by omega) ?_ | refine BrG.neg (by omega) ?_) | refine Chk.mk (ptr_ok tblOk rfl rfl) ?_)
      refine BrG.eqt (by simp [hee]) ?_
      repeat (first | refine SemW.run tblOk ?_ | refine IntG.nw (by omega) ?_ | refine IntG.nu8 (by omega) ?_ | refine IntG.nu32 (by omega) ?_ | refine IntG.nu64 (by omega) ?_ | refine IntG.wr' rfl ?_ | refine Chk.mk (by omega) ?_ | (refine BrG.id ?_; first | with_reducible refine BrG.t ?_ | with_reducible refine BrG.f ?_ | with_reducible refine BrG.notG ?_ | with_reducible refine BrG.nn ?_ | with_reducible refine BrG.ns ?_ | refine BrG.pos (by omega) ?_ | refine BrG.neg (by omega) ?_) | refine Chk.mk (ptr_ok tblOk rfl rfl) ?_)
      refine hS.al ?_
      intro r3 w8 _ hS
      repeat (first | refine SemW.run tblOk ?_ | refine IntG.nw (by omega) ?_ | refine IntG.nu8 (by omega) ?_ | refine IntG.nu32 (by omega) ?_ | refine IntG.nu64 (by omega) ?_ | refine IntG.wr' rfl ?_ | refine Chk.mk (by omega) ?_ | (refine BrG.id ?_; first | with_reducible refine BrG.t ?_ | with_reducible refine BrG.f ?_ | with_reducible refine BrG.notG ?_ | with_reducible refine BrG.nn ?_ | with_reducible refine BrG.ns ?_ | refine BrG.pos (by omega) ?_ | refine BrG.neg (by omega) ?_) | refine Chk.mk (ptr_ok tblOk rfl rfl) ?_)
      refine (Crash_files hfm hF (hS.part (L := L2)) rfl (cuts := [1152921504606846976]) (hS.arr (b := r3) (nodup_new hS)) (by simp) (by rw [hpd]; simp) (by rw [hpd]; simp only; omega)).mono ?_
      rintro _ w9 ⟨g, Lg, rfl, hG, hS'⟩
      have hS := (hS.call (L := L2) hS').sub (List.sublist_cons_self _ _)
      by_cases hz : cntP A 1 k = 0
      · have hz' := hc0.1 hz
        rw [show pieces ps (cntP A 1 k) = none by unfold pieces; rw [if_pos hz]] at hG
        have hG : FSo g (oneM nX none 0) Lg := hG
        repeat (first | refine SemW.run tblOk ?_ | refine IntG.nw (by omega) ?_ | refine IntG.nu8 (by omega) ?_ | refine IntG.nu32 (by omega) ?_ | refine IntG.nu64 (by omega) ?_ | refine IntG.wr' rfl ?_ | refine Chk.mk (by omega) ?_ | (refine BrG.id ?_; first | with_reducible refine BrG.t ?_ | with_reducible refine BrG.f ?_ | with_reducible refine BrG.notG ?_ | with_reducible refine BrG.nn ?_ | with_reducible refine BrG.ns ?_ | refine BrG.pos (by omega) ?_ | refine BrG.neg (by omega) ?_) | refine Chk.mk (ptr_ok tblOk rfl rfl) ?_)
        refine (Read_none hG (hS.part (L := Lg))).mono ?_
        rintro _ w10 ⟨rfl, hS'⟩
        have hS := hS.call (L := Lg) hS'
        rcases hz' with h | ⟨h, hk'⟩
        · repeat (first | refine SemW.run tblOk ?_ | refine IntG.nw (by omega) ?_ | refine IntG.nu8 (by omega) ?_ | refine IntG.nu32 (by omega) ?_ | refine IntG.nu64 (by omega) ?_ | refine IntG.wr' rfl ?_ | refine Chk.mk (by omega) ?_ | (refine BrG.id ?_; first | with_reducible refine BrG.t ?_ | with_reducible refine BrG.f ?_ | with_reducible refine BrG.notG ?_ | with_reducible refine BrG.nn ?_ | with_reducible refine BrG.ns ?_ | refine BrG.pos (by omega) ?_ | refine BrG.neg (by omega) ?_) | refine Chk.mk (ptr_ok tblOk rfl rfl) ?_)
          exact ⟨rfl, hS.nil⟩
        · first
            | exact absurd hk' (by decide)
            | (by_cases hl0 : ps.length = 0
               · repeat (first | refine SemW.run tblOk ?_ | refine IntG.nw (by omega) ?_ | refine IntG.nu8 (by omega) ?_ | refine IntG.nu32 (by omega) ?_ | refine IntG.nu64 (by omega) ?_ | refine IntG.wr' rfl ?_ | refine Chk.mk (by omega) ?_ | (refine BrG.id ?_; first | with_reducible refine BrG.t ?_ | with_reducible refine BrG.f ?_ | with_reducible refine BrG.notG ?_ | with_reducible refine BrG.nn ?_ | with_reducible refine BrG.ns ?_ | refine BrG.pos (by omega) ?_ | refine BrG.neg (by omega) ?_) | refine Chk.mk (ptr_ok tblOk rfl rfl) ?_)
                 exact ⟨rfl, hS.nil⟩
               · repeat (first | refine SemW.run tblOk ?_ | refine IntG.nw (by omega) ?_ | refine IntG.nu8 (by omega) ?_ | refine IntG.nu32 (by omega) ?_ | refine IntG.nu64 (by omega) ?_ | refine IntG.wr' rfl ?_ | refine Chk.mk (by omega) ?_ | (refine BrG.id ?_; first | with_reducible refine BrG.t ?_ | with_reducible refine BrG.f ?_ | with_reducible refine BrG.notG ?_ | with_reducible refine BrG.nn ?_ | with_reducible refine BrG.ns ?_ | refine BrG.pos (by omega) ?_ | refine BrG.neg (by omega) ?_) | refine Chk.mk (ptr_ok tblOk rfl rfl) ?_)
                 exact ⟨rfl, hS.nil⟩)
      · have hz' := fun h => hz (hc0.2 h)
        have hpT : pieces ps (cntP A 1 k) = some ((ps.take (cntP A 1 k)).flatten, 0) := by unfold pieces; rw [if_neg hz]
        rw [hpT] at hG
        generalize (ps.take (cntP A 1 k)).flatten = T at hfl hG ⊢
        simp only [Option.map_some, cut_all T (by omega)] at hG
        repeat (first | refine SemW.run tblOk ?_ | refine IntG.nw (by omega) ?_ | refine IntG.nu8 (by omega) ?_ | refine IntG.nu32 (by omega) ?_ | refine IntG.nu64 (by omega) ?_ | refine IntG.wr' rfl ?_ | refine Chk.mk (by omega) ?_ | (refine BrG.id ?_; first | with_reducible refine BrG.t ?_ | with_reducible refine BrG.f ?_ | with_reducible refine BrG.notG ?_ | with_reducible refine BrG.nn ?_ | with_reducible refine BrG.ns ?_ | refine BrG.pos (by omega) ?_ | refine BrG.neg (by omega) ?_) | refine Chk.mk (ptr_ok tblOk rfl rfl) ?_)
        refine (Read_some hG (hS.part (L := Lg))).mono ?_
        rintro _ w10 ⟨rfl, hS'⟩
        have hS := hS.call (L := Lg) hS'
        have hl : ps.length ≠ 0 := fun h => hz' (.inl h)
        by_cases hA0 : A = 0
        · first
            | exact absurd (.inr ⟨hA0, rfl⟩) hz'
            | (repeat (first | refine SemW.run tblOk ?_ | refine IntG.nw (by omega) ?_ | refine IntG.nu8 (by omega) ?_ | refine IntG.nu32 (by omega) ?_ | refine IntG.nu64 (by omega) ?_ | refine IntG.wr' rfl ?_ | refine Chk.mk (by omega) ?_ | (refine BrG.id ?_; first | with_reducible refine BrG.t ?_ | with_reducible refine BrG.f ?_ | with_reducible refine BrG.notG ?_ | with_reducible refine BrG.nn ?_ | with_reducible refine BrG.ns ?_ | refine BrG.pos (by omega) ?_ | refine BrG.neg (by omega) ?_) | refine Chk.mk (ptr_ok tblOk rfl rfl) ?_)
               exact ⟨congrArg Value.bool (decide_eq_true rfl), hS.nil⟩)
        · repeat (first | refine SemW.run tblOk ?_ | refine IntG.nw (by omega) ?_ | refine IntG.nu8 (by omega) ?_ | refine IntG.nu32 (by omega) ?_ | refine IntG.nu64 (by omega) ?_ | refine IntG.wr' rfl ?_ | refine Chk.mk (by omega) ?_ | (refine BrG.id ?_; first | with_reducible refine BrG.t ?_ | with_reducible refine BrG.f ?_ | with_reducible refine BrG.notG ?_ | with_reducible refine BrG.nn ?_ | with_reducible refine BrG.ns ?_ | refine BrG.pos (by omega) ?_ | refine BrG.neg (by omega) ?_) | refine Chk.mk (ptr_ok tblOk rfl rfl) ?_)
          exact ⟨congrArg Value.bool (decide_eq_true rfl), hS.nil⟩
  | true =>
    repeat (first | refine SemW.run tblOk ?_ | refine IntG.nw (by omega) ?_ | refine IntG.nu8 (by omega) ?_ | refine IntG.nu32 (by omega) ?_ | refine IntG.nu64 (by omega) ?_ | refine IntG.wr' rfl ?_ | refine Chk.mk (by omega) ?_ | (refine BrG.id ?_; first | with_reducible refine BrG.t ?_ | with_reducible refine BrG.f ?_ | with_reducible refine BrG.notG ?_ | with_reducible refine BrG.nn ?_ | with_reducible refine BrG.ns ?_ | refine BrG.pos (by omega) ?_ | refine BrG.neg (by omega) ?_) | refine Chk.mk (ptr_ok tblOk rfl rfl) ?_)
    refine hS.al ?_
    intro r w3 _ hS
    repeat (first | refine SemW.run tblOk ?_ | refine IntG.nw (by omega) ?_ | refine IntG.nu8 (by omega) ?_ | refine IntG.nu32 (by omega) ?_ | refine IntG.nu64 (by omega) ?_ | refine IntG.wr' rfl ?_ | refine Chk.mk (by omega) ?_ | (refine BrG.id ?_; first | with_reducible refine BrG.t ?_ | with_reducible refine BrG.f ?_ | with_reducible refine BrG.notG ?_ | with_reducible refine BrG.nn ?_ | with_reducible refine BrG.ns ?_ | refine BrG.pos (by omega) ?_ | refine BrG.neg (by omega) ?_) | refine Chk.mk (ptr_ok tblOk rfl rfl) ?_)
    refine (Arm_spec hF (hS.part (L := L)) (fs := [((A : Int), 2)]) (show Arr _ _ _ (fateC [((A : Int), 2)]) from hS.arr (b := r) (nodup_new hS)) (by simp)).mono ?_
    rintro _ w4 ⟨L1, hF, hS'⟩
    have hS := (hS.call (L := L) hS').sub (List.sublist_cons_self _ _)
    rw [pw0 ps A 2 (by simp)] at hF
    repeat (first | refine SemW.run tblOk ?_ | refine IntG.nw (by omega) ?_ | refine IntG.nu8 (by omega) ?_ | refine IntG.nu32 (by omega) ?_ | refine IntG.nu64 (by omega) ?_ | refine IntG.wr' rfl ?_ | refine Chk.mk (by omega) ?_ | (refine BrG.id ?_; first | with_reducible refine BrG.t ?_ | with_reducible refine BrG.f ?_ | with_reducible refine BrG.notG ?_ | with_reducible refine BrG.nn ?_ | with_reducible refine BrG.ns ?_ | refine BrG.pos (by omega) ?_ | refine BrG.neg (by omega) ?_) | refine Chk.mk (ptr_ok tblOk rfl rfl) ?_)
    refine SemW.loop (fun k : Nat => [(0, .slice a0 ps.length c0), (2, .bool true), (7, ptr f), (8, .int .i64 A), (10, Str (ps.take (cntP A 2 k)).flatten), (34, .slice a0 ps.length c0), (35, .int .i64 ps.length), (36, .int .i64 k)])
      (fun k w' => k ≤ ps.length ∧ ∃ L, FSo f (pwM ps A 2 k) L ∧ St w [] L w') (fun k => ps.length - k) 0
      ⟨rfl, rfl, rfl, rfl, rfl, rfl, rfl, rfl, trivial⟩ ⟨Nat.zero_le _, L1, hF, hS⟩ ?_
    rintro k w5 ⟨hk, L2, hF, hS⟩
    by_cases hkl : k < ps.length
    · have h1 := sumLen_take ps k hkl
      have h2 := sumLen_take_le ps (k + 1)
      have hfl := flat_len (ps.take (cntP A 2 k))
      have hfl2 := sumLen_take_le ps (cntP A 2 k)
      obtain ⟨b', off', rfl, -, hck⟩ := ha0.get (j := k) (by simp; omega)
      simp only [List.getElem_map] at hck
      repeat (first | refine SemW.run tblOk ?_ | refine IntG.nw (by omega) ?_ | refine IntG.nu8 (by omega) ?_ | refine IntG.nu32 (by omega) ?_ | refine IntG.nu64 (by omega) ?_ | refine IntG.wr' rfl ?_ | refine Chk.mk (by omega) ?_ | (refine BrG.id ?_; first | with_reducible refine BrG.t ?_ | with_reducible refine BrG.f ?_ | with_reducible refine BrG.notG ?_ | with_reducible refine BrG.nn ?_ | with_reducible refine BrG.ns ?_ | refine BrG.pos (by omega) ?_ | refine BrG.neg (by omega) ?_) | refine Chk.mk (ptr_ok tblOk rfl rfl) ?_)
      refine hS.ldOld (by simp) (by simpa using hck) ?_
      repeat (first | refine SemW.run tblOk ?_ | refine IntG.nw (by omega) ?_ | refine IntG.nu8 (by omega) ?_ | refine IntG.nu32 (by omega) ?_ | refine IntG.nu64 (by omega) ?_ | refine IntG.wr' rfl ?_ | refine Chk.mk (by omega) ?_ | (refine BrG.id ?_; first | with_reducible refine BrG.t ?_ | with_reducible refine BrG.f ?_ | with_reducible refine BrG.notG ?_ | with_reducible refine BrG.nn ?_ | with_reducible refine BrG.ns ?_ | refine BrG.pos (by omega) ?_ | refine BrG.neg (by omega) ?_) | refine Chk.mk (ptr_ok tblOk rfl rfl) ?_)
      refine hS.al ?_
      intro r2 w6 _ hS
      repeat (first | refine SemW.run tblOk ?_ | refine IntG.nw (by omega) ?_ | refine IntG.nu8 (by omega) ?_ | refine IntG.nu32 (by omega) ?_ | refine IntG.nu64 (by omega) ?_ | refine IntG.wr' rfl ?_ | refine Chk.mk (by omega) ?_ | (refine BrG.id ?_; first | with_reducible refine BrG.t ?_ | with_reducible refine BrG.f ?_ | with_reducible refine BrG.notG ?_ | with_reducible refine BrG.nn ?_ | with_reducible refine BrG.ns ?_ | refine BrG.pos (by omega) ?_ | refine BrG.neg (by omega) ?_) | refine Chk.mk (ptr_ok tblOk rfl rfl) ?_)
      refine (Append_spec hF (hS.part (L := L2)) nX (ps := [ps[k]]) (hS.arr (b := r2) (nodup_new hS)) (by simp) (by simp) ?_ ?_ ?_).mono ?_
      · have e : sumLen [ps[k]] = ps[k].length := by simp [sumLen]
        have e2 : fget (pwM ps A 2 k) nX = pieces ps (cntP A 2 k) := fget_fileL _ _ _ _ _
        rw [e2, pieces_getD, e]
        simp only; omega
      · show min k (A + 1) + 1 ≤ _; omega
      · show min k (A + 1) + 1 ≤ _; omega
      rw [pw_step ps A 2 (by simp) k hkl]
      by_cases hkA : k < A
      · rw [if_pos hkA]
        rintro v w7 ⟨hv, L3, hF, hS'⟩
        have hv : v = .int .i64 0 := hv
        subst hv
        have hS := (hS.call (L := L2) hS').sub (List.sublist_cons_self _ _)
        repeat (first | refine SemW.run tblOk ?_ | refine IntG.nw (by omega) ?_ | refine IntG.nu8 (by omega) ?_ | refine IntG.nu32 (by omega) ?_ | refine IntG.nu64 (by omega) ?_ | refine IntG.wr' rfl ?_ | refine Chk.mk (by omega) ?_ | (refine BrG.id ?_; first | with_reducible refine BrG.t ?_ | with_reducible refine BrG.f ?_ | with_reducible refine BrG.notG ?_ | with_reducible refine BrG.nn ?_ | with_reducible refine BrG.ns ?_ | refine BrG.pos (by omega) ?_ | refine BrG.neg (by omega) ?_) | refine Chk.mk (ptr_ok tblOk rfl rfl) ?_)
        refine Chk.mk (und_of tblOk (t := T_bool) rfl) ?_
        repeat (first | refine SemW.run tblOk ?_ | refine IntG.nw (by omega) ?_ | refine IntG.nu8 (by omega) ?_ | refine IntG.nu32 (by omega) ?_ | refine IntG.nu64 (by omega) ?_ | refine IntG.wr' rfl ?_ | refine Chk.mk (by omega) ?_ | (refine BrG.id ?_; first | with_reducible refine BrG.t ?_ | with_reducible refine BrG.f ?_ | with_reducible refine BrG.notG ?_ | with_reducible refine BrG.nn ?_ | with_reducible refine BrG.ns ?_ | refine BrG.pos (by omega) ?_ | refine BrG.neg (by omega) ?_) | refine Chk.mk (ptr_ok tblOk rfl rfl) ?_)
        refine BrG.eqt (by simp; try omega) ?_
        repeat (first | refine SemW.run tblOk ?_ | refine IntG.nw (by omega) ?_ | refine IntG.nu8 (by omega) ?_ | refine IntG.nu32 (by omega) ?_ | refine IntG.nu64 (by omega) ?_ | refine IntG.wr' rfl ?_ | refine Chk.mk (by omega) ?_ | (refine BrG.id ?_; first | with_reducible refine BrG.t ?_ | with_reducible refine BrG.f ?_ | with_reducible refine BrG.notG ?_ | with_reducible refine BrG.nn ?_ | with_reducible refine BrG.ns ?_ | refine BrG.pos (by omega) ?_ | refine BrG.neg (by omega) ?_) | refine Chk.mk (ptr_ok tblOk rfl rfl) ?_)
        refine (Down_spec hF (hS.part (L := L3))).mono ?_
        rw [show (pwM ps A 2 (k + 1)).off = false from decide_eq_false (by omega)]
        rintro _ w8 ⟨rfl, hS'⟩
        have hS := hS.call (L := L3) hS'
        repeat (first | refine SemW.run tblOk ?_ | refine IntG.nw (by omega) ?_ | refine IntG.nu8 (by omega) ?_ | refine IntG.nu32 (by omega) ?_ | refine IntG.nu64 (by omega) ?_ | refine IntG.wr' rfl ?_ | refine Chk.mk (by omega) ?_ | (refine BrG.id ?_; first | with_reducible refine BrG.t ?_ | with_reducible refine BrG.f ?_ | with_reducible refine BrG.notG ?_ | with_reducible refine BrG.nn ?_ | with_reducible refine BrG.ns ?_ | refine BrG.pos (by omega) ?_ | refine BrG.neg (by omega) ?_) | refine Chk.mk (ptr_ok tblOk rfl rfl) ?_)
        refine Chk.mk (und_of tblOk (t := T_bool) rfl) ?_
        repeat (first | refine SemW.run tblOk ?_ | refine IntG.nw (by omega) ?_ | refine IntG.nu8 (by omega) ?_ | refine IntG.nu32 (by omega) ?_ | refine IntG.nu64 (by omega) ?_ | refine IntG.wr' rfl ?_ | refine Chk.mk (by omega) ?_ | (refine BrG.id ?_; first | with_reducible refine BrG.t ?_ | with_reducible refine BrG.f ?_ | with_reducible refine BrG.notG ?_ | with_reducible refine BrG.nn ?_ | with_reducible refine BrG.ns ?_ | refine BrG.pos (by omega) ?_ | refine BrG.neg (by omega) ?_) | refine Chk.mk (ptr_ok tblOk rfl rfl) ?_)
        refine BrG.eqt (by simp; try omega) ?_
        repeat (first | refine SemW.run tblOk ?_ | refine IntG.nw (by omega) ?_ | refine IntG.nu8 (by omega) ?_ | refine IntG.nu32 (by omega) ?_ | refine IntG.nu64 (by omega) ?_ | refine IntG.wr' rfl ?_ | refine Chk.mk (by omega) ?_ | (refine BrG.id ?_; first | with_reducible refine BrG.t ?_ | with_reducible refine BrG.f ?_ | with_reducible refine BrG.notG ?_ | with_reducible refine BrG.nn ?_ | with_reducible refine BrG.ns ?_ | refine BrG.pos (by omega) ?_ | refine BrG.neg (by omega) ?_) | refine Chk.mk (ptr_ok tblOk rfl rfl) ?_)
        refine ⟨k + 1, ⟨rfl, rfl, rfl, rfl, ?_, rfl, rfl, rfl, trivial⟩, ⟨by omega, L3, hF, hS⟩, by omega⟩
        show _ = (_ : Value)
        rw [show cntP A 2 (k + 1) = k + 1 by unfold cntP; simp; omega, show cntP A 2 k = k by unfold cntP; simp; omega, flat_succ ps k hkl]
      · rw [if_neg hkA]
        rintro v w7 ⟨hv, L3, hF, hS'⟩
        have hv : v = .int .i64 7 := hv
        subst hv
        have hS := (hS.call (L := L2) hS').sub (List.sublist_cons_self _ _)
        repeat (first | refine SemW.run tblOk ?_ | refine IntG.nw (by omega) ?_ | refine IntG.nu8 (by omega) ?_ | refine IntG.nu32 (by omega) ?_ | refine IntG.nu64 (by omega) ?_ | refine IntG.wr' rfl ?_ | refine Chk.mk (by omega) ?_ | (refine BrG.id ?_; first | with_reducible refine BrG.t ?_ | with_reducible refine BrG.f ?_ | with_reducible refine BrG.notG ?_ | with_reducible refine BrG.nn ?_ | with_reducible refine BrG.ns ?_ | refine BrG.pos (by omega) ?_ | refine BrG.neg (by omega) ?_) | refine Chk.mk (ptr_ok tblOk rfl rfl) ?_)
        refine Chk.mk (und_of tblOk (t := T_bool) rfl) ?_
        repeat (first | refine SemW.run tblOk ?_ | refine IntG.nw (by omega) ?_ | refine IntG.nu8 (by omega) ?_ | refine IntG.nu32 (by omega) ?_ | refine IntG.nu64 (by omega) ?_ | refine IntG.wr' rfl ?_ | refine Chk.mk (by omega) ?_ | (refine BrG.id ?_; first | with_reducible refine BrG.t ?_ | with_reducible refine BrG.f ?_ | with_reducible refine BrG.notG ?_ | with_reducible refine BrG.nn ?_ | with_reducible refine BrG.ns ?_ | refine BrG.pos (by omega) ?_ | refine BrG.neg (by omega) ?_) | refine Chk.mk (ptr_ok tblOk rfl rfl) ?_)
        refine BrG.eqt (by simp; try omega) ?_
        repeat (first | refine SemW.run tblOk ?_ | refine IntG.nw (by omega) ?_ | refine IntG.nu8 (by omega) ?_ | refine IntG.nu32 (by omega) ?_ | refine IntG.nu64 (by omega) ?_ | refine IntG.wr' rfl ?_ | refine Chk.mk (by omega) ?_ | (refine BrG.id ?_; first | with_reducible refine BrG.t ?_ | with_reducible refine BrG.f ?_ | with_reducible refine BrG.notG ?_ | with_reducible refine BrG.nn ?_ | with_reducible refine BrG.ns ?_ | refine BrG.pos (by omega) ?_ | refine BrG.neg (by omega) ?_) | refine Chk.mk (ptr_ok tblOk rfl rfl) ?_)
        refine (Down_spec hF (hS.part (L := L3))).mono ?_
        rw [show (pwM ps A 2 (k + 1)).off = true from decide_eq_true (by omega)]
        rintro _ w8 ⟨rfl, hS'⟩
        have hS := hS.call (L := L3) hS'
        repeat (first | refine SemW.run tblOk ?_ | refine IntG.nw (by omega) ?_ | refine IntG.nu8 (by omega) ?_ | refine IntG.nu32 (by omega) ?_ | refine IntG.nu64 (by omega) ?_ | refine IntG.wr' rfl ?_ | refine Chk.mk (by omega) ?_ | (refine BrG.id ?_; first | with_reducible refine BrG.t ?_ | with_reducible refine BrG.f ?_ | with_reducible refine BrG.notG ?_ | with_reducible refine BrG.nn ?_ | with_reducible refine BrG.ns ?_ | refine BrG.pos (by omega) ?_ | refine BrG.neg (by omega) ?_) | refine Chk.mk (ptr_ok tblOk rfl rfl) ?_)
        refine Chk.mk (und_of tblOk (t := T_bool) rfl) ?_
        repeat (first | refine SemW.run tblOk ?_ | refine IntG.nw (by omega) ?_ | refine IntG.nu8 (by omega) ?_ | refine IntG.nu32 (by omega) ?_ | refine IntG.nu64 (by omega) ?_ | refine IntG.wr' rfl ?_ | refine Chk.mk (by omega) ?_ | (refine BrG.id ?_; first | with_reducible refine BrG.t ?_ | with_reducible refine BrG.f ?_ | with_reducible refine BrG.notG ?_ | with_reducible refine BrG.nn ?_ | with_reducible refine BrG.ns ?_ | refine BrG.pos (by omega) ?_ | refine BrG.neg (by omega) ?_) | refine Chk.mk (ptr_ok tblOk rfl rfl) ?_)
        refine BrG.eqt (by simp; try omega) ?_
        repeat (first | refine SemW.run tblOk ?_ | refine IntG.nw (by omega) ?_ | refine IntG.nu8 (by omega) ?_ | refine IntG.nu32 (by omega) ?_ | refine IntG.nu64 (by omega) ?_ | refine IntG.wr' rfl ?_ | refine Chk.mk (by omega) ?_ | (refine BrG.id ?_; first | with_reducible refine BrG.t ?_ | with_reducible refine BrG.f ?_ | with_reducible refine BrG.notG ?_ | with_reducible refine BrG.nn ?_ | with_reducible refine BrG.ns ?_ | refine BrG.pos (by omega) ?_ | refine BrG.neg (by omega) ?_) | refine Chk.mk (ptr_ok tblOk rfl rfl) ?_)
        by_cases hke : k = A
        · repeat (first | refine SemW.run tblOk ?_ | refine IntG.nw (by omega) ?_ | refine IntG.nu8 (by omega) ?_ | refine IntG.nu32 (by omega) ?_ | refine IntG.nu64 (by omega) ?_ | refine IntG.wr' rfl ?_ | refine Chk.mk (by omega) ?_ | (refine BrG.id ?_; first | with_reducible refine BrG.t ?_ | with_reducible refine BrG.f ?_ | with_reducible refine BrG.notG ?_ | with_reducible refine BrG.nn ?_ | with_reducible refine BrG.ns ?_ | refine BrG.pos (by omega) ?_ | refine BrG.neg (by omega) ?_) | refine Chk.mk (ptr_ok tblOk rfl rfl) ?_)
          refine ⟨k + 1, ⟨rfl, rfl, rfl, rfl, ?_, rfl, rfl, rfl, trivial⟩, ⟨by omega, L3, hF, hS⟩, by omega⟩
          show _ = (_ : Value)
          first
            | rw [show cntP A 2 (k + 1) = cntP A 2 k by unfold cntP; simp; omega]
            | rw [show cntP A 2 (k + 1) = k + 1 by unfold cntP; simp; omega, show cntP A 2 k = k by unfold cntP; simp; omega, flat_succ ps k hkl]
        · repeat (first | refine SemW.run tblOk ?_ | refine IntG.nw (by omega) ?_ | refine IntG.nu8 (by omega) ?_ | refine IntG.nu32 (by omega) ?_ | refine IntG.nu64 (by omega) ?_ | refine IntG.wr' rfl ?_ | refine Chk.mk (by omega) ?_ | (refine BrG.id ?_; first | with_reducible refine BrG.t ?_ | with_reducible refine BrG.f ?_ | with_reducible refine BrG.notG ?_ | with_reducible refine BrG.nn ?_ | with_reducible refine BrG.ns ?_ | refine BrG.pos (by omega) ?_ | refine BrG.neg (by omega) ?_) | refine Chk.mk (ptr_ok tblOk rfl rfl) ?_)
          refine ⟨k + 1, ⟨rfl, rfl, rfl, rfl, ?_, rfl, rfl, rfl, trivial⟩, ⟨by omega, L3, hF, hS⟩, by omega⟩
          show _ = (_ : Value)
          rw [show cntP A 2 (k + 1) = cntP A 2 k by unfold cntP; simp; omega]
    · have hke : k = ps.length := by omega
      have hfl := flat_len (ps.take (cntP A 2 k))
      have hfl2 := sumLen_take_le ps (cntP A 2 k)
      have hfm : (pwM ps A 2 k).files = (oneM nX (pieces ps (cntP A 2 k)) 0).files := rfl
      have hc0 : (cntP A 2 k = 0) ↔ (ps.length = 0 ∨ (A = 0 ∧ 2 = (1 : Int))) := by
        unfold cntP
        first
          | rw [if_pos (by decide : (2 : Int) = 2)]; omega
          | rw [if_neg (by decide : ¬ (2 : Int) = 2)]; omega
      have hpd := pieces_getD ps (cntP A 2 k)
      have hRd : ∃ t e, findM (pwM ps A 2 k) nX = ((t, 0), e) ∧ (e = 7 ↔ A < k) := by
        unfold findM
        by_cases hAk : A < k
        · rw [if_pos (show (pwM ps A 2 k).off = true from decide_eq_true hAk)]
          exact ⟨[], 7, rfl, by simp [hAk]⟩
        · rw [if_neg (show ¬ (pwM ps A 2 k).off = true from by rw [show (pwM ps A 2 k).off = false from decide_eq_false hAk]; simp)]
          rw [show fget (pwM ps A 2 k) nX = pieces ps (cntP A 2 k) from fget_fileL _ _ _ _ _]
          unfold pieces
          by_cases hz : cntP A 2 k = 0
          · rw [if_pos hz]
            exact ⟨[], 5, rfl, by simp [hAk]⟩
          · rw [if_neg hz]
            exact ⟨_, 0, rfl, by simp [hAk]⟩
      obtain ⟨t, e, hfe, hee⟩ := hRd
      repeat (first | refine SemW.run tblOk ?_ | refine IntG.nw (by omega) ?_ | refine IntG.nu8 (by omega) ?_ | refine IntG.nu32 (by omega) ?_ | refine IntG.nu64 (by omega) ?_ | refine IntG.wr' rfl ?_ | refine Chk.mk (by omega) ?_ | (refine BrG.id ?_; first | with_reducible refine BrG.t ?_ | with_reducible refine BrG.f ?_ | with_reducible refine BrG.notG ?_ | with_reducible refine BrG.nn ?_ | with_reducible refine BrG.ns ?_ | refine BrG.pos (by omega) ?_ | refine BrG.neg (by omega) ?_) | refine Chk.mk (ptr_ok tblOk rfl rfl) ?_)
      refine (Read_spec hF (hS.part (L := L2)) nX).mono ?_
      rw [hfe]
      rintro _ w6 ⟨rfl, hS'⟩
      have hS := hS.call (L := L2) hS'
      repeat (first | refine SemW.run tblOk ?_ | refine IntG.nw (by omega) ?_ | refine IntG.nu8 (by omega) ?_ | refine IntG.nu32 (by omega) ?_ | refine IntG.nu64 (by omega) ?_ | refine IntG.wr' rfl ?_ | refine Chk.mk (by omega) ?_ | (refine BrG.id ?_; first | with_reducible refine BrG.t ?_ | with_reducible refine BrG.f ?_ | with_reducible refine BrG.notG ?_ | with_reducible refine BrG.nn ?_ | with_reducible refine BrG.ns ?_ | refine BrG.pos (by omega) ?_ | refine BrG.neg (by omega) ?_) | refine Chk.mk (ptr_ok tblOk rfl rfl) ?_)
      refine (Down_spec hF (hS.part (L := L2))).mono ?_
      rw [show (pwM ps A 2 k).off = decide (A < k) from rfl]
      rintro _ w7 ⟨rfl, hS'⟩
      have hS := hS.call (L := L2) hS'
      repeat (first | refine SemW.run tblOk ?_ | refine IntG.nw (by omega) ?_ | refine IntG.nu8 (by omega) ?_ | refine IntG.nu32 (by omega) ?_ | refine IntG.nu64 (by omega) ?_ | refine IntG.wr' rfl ?_ | refine Chk.mk (by omega) ?_ | (refine BrG.id ?_; first | with_reducible refine BrG.t ?_ | with_reducible refine BrG.f ?_ | with_reducible refine BrG.notG ?_ | with_reducible refine BrG.nn ?_ | with_reducible refine BrG.ns ?_ | refine BrG.pos (by omega) ?_ | refine BrG.neg (by omega) ?_) | refine Chk.mk (ptr_ok tblOk rfl rfl) ?_)
      refine Chk.mk (und_of tblOk (t := T_bool) rfl) ?_
      repeat (first | refine SemW.run tblOk ?_ | refine IntG.nw (by omega) ?_ | refine IntG.nu8 (by omega) ?_ | refine IntG.nu32 (by omega) ?_ | refine IntG.nu64 (by omega) ?_ | refine IntG.wr' rfl ?_ | refine Chk.mk (by omega) ?_ | (refine BrG.id ?_; first | with_reducible refine BrG.t ?_ | with_reducible refine BrG.f ?_ | with_reducible refine BrG.notG ?_ | with_reducible refine BrG.nn ?_ | with_reducible refine BrG.ns ?_ | refine BrG.pos (by omega) ?_ | refine BrG.neg (by omega) ?_) | refine Chk.mk (ptr_ok tblOk rfl rfl) ?_)
      refine BrG.eqt (by simp [hee]) ?_
      repeat (first | refine SemW.run tblOk ?_ | refine IntG.nw (by omega) ?_ | refine IntG.nu8 (by omega) ?_ | refine IntG.nu32 (by omega) ?_ | refine IntG.nu64 (by omega) ?_ | refine IntG.wr' rfl ?_ | refine Chk.mk (by omega) ?_ | (refine BrG.id ?_; first | with_reducible refine BrG.t ?_ | with_reducible refine BrG.f ?_ | with_reducible refine BrG.notG ?_ | with_reducible refine BrG.nn ?_ | with_reducible refine BrG.ns ?_ | refine BrG.pos (by omega) ?_ | refine BrG.neg (by omega) ?_) | refine Chk.mk (ptr_ok tblOk rfl rfl) ?_)
      refine hS.al ?_
      intro r3 w8 _ hS
      repeat (first | refine SemW.run tblOk ?_ | refine IntG.nw (by omega) ?_ | refine IntG.nu8 (by omega) ?_ | refine IntG.nu32 (by omega) ?_ | refine IntG.nu64 (by omega) ?_ | refine IntG.wr' rfl ?_ | refine Chk.mk (by omega) ?_ | (refine BrG.id ?_; first | with_reducible refine BrG.t ?_ | with_reducible refine BrG.f ?_ | with_reducible refine BrG.notG ?_ | with_reducible refine BrG.nn ?_ | with_reducible refine BrG.ns ?_ | refine BrG.pos (by omega) ?_ | refine BrG.neg (by omega) ?_) | refine Chk.mk (ptr_ok tblOk rfl rfl) ?_)
      refine (Crash_files hfm hF (hS.part (L := L2)) rfl (cuts := [1152921504606846976]) (hS.arr (b := r3) (nodup_new hS)) (by simp) (by rw [hpd]; simp) (by rw [hpd]; simp only; omega)).mono ?_
      rintro _ w9 ⟨g, Lg, rfl, hG, hS'⟩
      have hS := (hS.call (L := L2) hS').sub (List.sublist_cons_self _ _)
      by_cases hz : cntP A 2 k = 0
      · have hz' := hc0.1 hz
        rw [show pieces ps (cntP A 2 k) = none by unfold pieces; rw [if_pos hz]] at hG
        have hG : FSo g (oneM nX none 0) Lg := hG
        repeat (first | refine SemW.run tblOk ?_ | refine IntG.nw (by omega) ?_ | refine IntG.nu8 (by omega) ?_ | refine IntG.nu32 (by omega) ?_ | refine IntG.nu64 (by omega) ?_ | refine IntG.wr' rfl ?_ | refine Chk.mk (by omega) ?_ | (refine BrG.id ?_; first | with_reducible refine BrG.t ?_ | with_reducible refine BrG.f ?_ | with_reducible refine BrG.notG ?_ | with_reducible refine BrG.nn ?_ | with_reducible refine BrG.ns ?_ | refine BrG.pos (by omega) ?_ | refine BrG.neg (by omega) ?_) | refine Chk.mk (ptr_ok tblOk rfl rfl) ?_)
        refine (Read_none hG (hS.part (L := Lg))).mono ?_
        rintro _ w10 ⟨rfl, hS'⟩
        have hS := hS.call (L := Lg) hS'
        rcases hz' with h | ⟨h, hk'⟩
        · repeat (first | refine SemW.run tblOk ?_ | refine IntG.nw (by omega) ?_ | refine IntG.nu8 (by omega) ?_ | refine IntG.nu32 (by omega) ?_ | refine IntG.nu64 (by omega) ?_ | refine IntG.wr' rfl ?_ | refine Chk.mk (by omega) ?_ | (refine BrG.id ?_; first | with_reducible refine BrG.t ?_ | with_reducible refine BrG.f ?_ | with_reducible refine BrG.notG ?_ | with_reducible refine BrG.nn ?_ | with_reducible refine BrG.ns ?_ | refine BrG.pos (by omega) ?_ | refine BrG.neg (by omega) ?_) | refine Chk.mk (ptr_ok tblOk rfl rfl) ?_)
          exact ⟨rfl, hS.nil⟩
        · first
            | exact absurd hk' (by decide)
            | (by_cases hl0 : ps.length = 0
               · repeat (first | refine SemW.run tblOk ?_ | refine IntG.nw (by omega) ?_ | refine IntG.nu8 (by omega) ?_ | refine IntG.nu32 (by omega) ?_ | refine IntG.nu64 (by omega) ?_ | refine IntG.wr' rfl ?_ | refine Chk.mk (by omega) ?_ | (refine BrG.id ?_; first | with_reducible refine BrG.t ?_ | with_reducible refine BrG.f ?_ | with_reducible refine BrG.notG ?_ | with_reducible refine BrG.nn ?_ | with_reducible refine BrG.ns ?_ | refine BrG.pos (by omega) ?_ | refine BrG.neg (by omega) ?_) | refine Chk.mk (ptr_ok tblOk rfl rfl) ?_)
                 exact ⟨rfl, hS.nil⟩
               · repeat (first | refine SemW.run tblOk ?_ | refine IntG.nw (by omega) ?_ | refine IntG.nu8 (by omega) ?_ | refine IntG.nu32 (by omega) ?_ | refine IntG.nu64 (by omega) ?_ | refine IntG.wr' rfl ?_ | refine Chk.mk (by omega) ?_ | (refine BrG.id ?_; first | with_reducible refine BrG.t ?_ | with_reducible refine BrG.f ?_ | with_reducible refine BrG.notG ?_ | with_reducible refine BrG.nn ?_ | with_reducible refine BrG.ns ?_ | refine BrG.pos (by omega) ?_ | refine BrG.neg (by omega) ?_) | refine Chk.mk (ptr_ok tblOk rfl rfl) ?_)
                 exact ⟨rfl, hS.nil⟩)
      · have hz' := fun h => hz (hc0.2 h)
        have hpT : pieces ps (cntP A 2 k) = some ((ps.take (cntP A 2 k)).flatten, 0) := by unfold pieces; rw [if_neg hz]
        rw [hpT] at hG
        generalize (ps.take (cntP A 2 k)).flatten = T at hfl hG ⊢
        simp only [Option.map_some, cut_all T (by omega)] at hG
        repeat (first | refine SemW.run tblOk ?_ | refine IntG.nw (by omega) ?_ | refine IntG.nu8 (by omega) ?_ | refine IntG.nu32 (by omega) ?_ | refine IntG.nu64 (by omega) ?_ | refine IntG.wr' rfl ?_ | refine Chk.mk (by omega) ?_ | (refine BrG.id ?_; first | with_reducible refine BrG.t ?_ | with_reducible refine BrG.f ?_ | with_reducible refine BrG.notG ?_ | with_reducible refine BrG.nn ?_ | with_reducible refine BrG.ns ?_ | refine BrG.pos (by omega) ?_ | refine BrG.neg (by omega) ?_) | refine Chk.mk (ptr_ok tblOk rfl rfl) ?_)
        refine (Read_some hG (hS.part (L := Lg))).mono ?_
        rintro _ w10 ⟨rfl, hS'⟩
        have hS := hS.call (L := Lg) hS'
        have hl : ps.length ≠ 0 := fun h => hz' (.inl h)
        by_cases hA0 : A = 0
        · first
            | exact absurd (.inr ⟨hA0, rfl⟩) hz'
            | (repeat (first | refine SemW.run tblOk ?_ | refine IntG.nw (by omega) ?_ | refine IntG.nu8 (by omega) ?_ | refine IntG.nu32 (by omega) ?_ | refine IntG.nu64 (by omega) ?_ | refine IntG.wr' rfl ?_ | refine Chk.mk (by omega) ?_ | (refine BrG.id ?_; first | with_reducible refine BrG.t ?_ | with_reducible refine BrG.f ?_ | with_reducible refine BrG.notG ?_ | with_reducible refine BrG.nn ?_ | with_reducible refine BrG.ns ?_ | refine BrG.pos (by omega) ?_ | refine BrG.neg (by omega) ?_) | refine Chk.mk (ptr_ok tblOk rfl rfl) ?_)
               exact ⟨congrArg Value.bool (decide_eq_true rfl), hS.nil⟩)
        · repeat (first | refine SemW.run tblOk ?_ | refine IntG.nw (by omega) ?_ | refine IntG.nu8 (by omega) ?_ | refine IntG.nu32 (by omega) ?_ | refine IntG.nu64 (by omega) ?_ | refine IntG.wr' rfl ?_ | refine Chk.mk (by omega) ?_ | (refine BrG.id ?_; first | with_reducible refine BrG.t ?_ | with_reducible refine BrG.f ?_ | with_reducible refine BrG.notG ?_ | with_reducible refine BrG.nn ?_ | with_reducible refine BrG.ns ?_ | refine BrG.pos (by omega) ?_ | refine BrG.neg (by omega) ?_) | refine Chk.mk (ptr_ok tblOk rfl rfl) ?_)
          exact ⟨congrArg Value.bool (decide_eq_true rfl), hS.nil⟩
end Go.Proofs.Ytnmmiiffeenjbaa
