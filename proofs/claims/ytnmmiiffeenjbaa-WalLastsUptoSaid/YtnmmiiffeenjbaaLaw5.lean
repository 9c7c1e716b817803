/- Plain laws of frames and calm file systems; tarmacref01.Same, tarmaclaw05.lives. -/
import Derived.Test.YtnmmiiffeenjbaaWal
namespace Go.Proofs.Ytnmmiiffeenjbaa
open Go Go.Eng Go.Proofs

set_option maxHeartbeats 1000000 in
theorem Same_spec {w : World} {a b : Option Addr} {ca cb : Nat} {ps qs : List Bytes} (ha : Arr w [] a (ps.map Str)) (hb : Arr w [] b (qs.map Str)) (hl : ps.length ≤ 9000000000000000000) :
    Cl Try.prog f_tarmacref01_Same [.slice a ps.length ca, .slice b qs.length cb] w fun v w' => v = .bool (decide (ps = qs)) ∧ St w [] [] w' := by
  have hS := St.start w
  refine en_tarmacref01_Same rfl ?_
  by_cases hlen : ps.length = qs.length
  · repeat (first | refine SemW.run tblOk ?_ | refine IntG.nw (by omega) ?_ | refine IntG.nu8 (by omega) ?_ | refine IntG.nu32 (by omega) ?_ | refine IntG.nu64 (by omega) ?_ | refine IntG.wr' rfl ?_ | refine Chk.mk (by omega) ?_ | (refine BrG.id ?_; first | with_reducible refine BrG.t ?_ | with_reducible refine BrG.f ?_ | with_reducible refine BrG.notG ?_ | with_reducible refine BrG.nn ?_ | with_reducible refine BrG.ns ?_ | refine BrG.pos (by omega) ?_ | refine BrG.neg (by omega) ?_) | refine Chk.mk (ptr_ok tblOk rfl rfl) ?_)
    refine SemW.loop (fun k : Nat => [(0, .slice a ps.length ca), (1, .slice b qs.length cb), (12, .int .i64 ps.length), (13, .int .i64 k)]) (fun k w' => k ≤ ps.length ∧ ps.take k = qs.take k ∧ St w [] [] w') (fun k => ps.length - k) 0
      ⟨rfl, rfl, rfl, rfl, trivial⟩ ⟨Nat.zero_le _, rfl, hS⟩ ?_
    rintro k w2 ⟨hk, heq, hS⟩
    by_cases hkl : k < ps.length
    · have hkq : k < qs.length := by omega
      obtain ⟨b1, off1, rfl, hb1, hc1⟩ := ha.get (j := k) (by simp; omega)
      obtain ⟨b2, off2, rfl, hb2, hc2⟩ := hb.get (j := k) (by simp; omega)
      simp only [List.getElem_map] at hc1 hc2
      repeat (first | refine SemW.run tblOk ?_ | refine IntG.nw (by omega) ?_ | refine IntG.nu8 (by omega) ?_ | refine IntG.nu32 (by omega) ?_ | refine IntG.nu64 (by omega) ?_ | refine IntG.wr' rfl ?_ | refine Chk.mk (by omega) ?_ | (refine BrG.id ?_; first | with_reducible refine BrG.t ?_ | with_reducible refine BrG.f ?_ | with_reducible refine BrG.notG ?_ | with_reducible refine BrG.nn ?_ | with_reducible refine BrG.ns ?_ | refine BrG.pos (by omega) ?_ | refine BrG.neg (by omega) ?_) | refine Chk.mk (ptr_ok tblOk rfl rfl) ?_)
      refine SemW.draw tblOk mixed (fun w' => St w [] [] w') [] [0, 1, 2, 3, 4, 5, 6, 7, 8] (by kernel_rfl) hS.drew ?_
      have hS := hS.drew
      repeat (first | refine SemW.run tblOk ?_ | refine IntG.nw (by omega) ?_ | refine IntG.nu8 (by omega) ?_ | refine IntG.nu32 (by omega) ?_ | refine IntG.nu64 (by omega) ?_ | refine IntG.wr' rfl ?_ | refine Chk.mk (by omega) ?_ | (refine BrG.id ?_; first | with_reducible refine BrG.t ?_ | with_reducible refine BrG.f ?_ | with_reducible refine BrG.notG ?_ | with_reducible refine BrG.nn ?_ | with_reducible refine BrG.ns ?_ | refine BrG.pos (by omega) ?_ | refine BrG.neg (by omega) ?_) | refine Chk.mk (ptr_ok tblOk rfl rfl) ?_ | refine hS.ldC rfl ?_ | refine hS.ldnC rfl ?_)
      refine hS.ldOldC hb1 (by simpa using hc1) ?_
      repeat (first | refine SemW.run tblOk ?_ | refine IntG.nw (by omega) ?_ | refine IntG.nu8 (by omega) ?_ | refine IntG.nu32 (by omega) ?_ | refine IntG.nu64 (by omega) ?_ | refine IntG.wr' rfl ?_ | refine Chk.mk (by omega) ?_ | (refine BrG.id ?_; first | with_reducible refine BrG.t ?_ | with_reducible refine BrG.f ?_ | with_reducible refine BrG.notG ?_ | with_reducible refine BrG.nn ?_ | with_reducible refine BrG.ns ?_ | refine BrG.pos (by omega) ?_ | refine BrG.neg (by omega) ?_) | refine Chk.mk (ptr_ok tblOk rfl rfl) ?_ | refine hS.ldC rfl ?_ | refine hS.ldnC rfl ?_)
      refine hS.ldOldC hb2 (by simpa using hc2) ?_
      repeat (first | refine SemW.run tblOk ?_ | refine IntG.nw (by omega) ?_ | refine IntG.nu8 (by omega) ?_ | refine IntG.nu32 (by omega) ?_ | refine IntG.nu64 (by omega) ?_ | refine IntG.wr' rfl ?_ | refine Chk.mk (by omega) ?_ | (refine BrG.id ?_; first | with_reducible refine BrG.t ?_ | with_reducible refine BrG.f ?_ | with_reducible refine BrG.notG ?_ | with_reducible refine BrG.nn ?_ | with_reducible refine BrG.ns ?_ | refine BrG.pos (by omega) ?_ | refine BrG.neg (by omega) ?_) | refine Chk.mk (ptr_ok tblOk rfl rfl) ?_ | refine hS.ldC rfl ?_ | refine hS.ldnC rfl ?_)
      by_cases he : ps[k] = qs[k]
      · refine BrG.pos he ?_
        repeat (first | refine SemW.run tblOk ?_ | refine IntG.nw (by omega) ?_ | refine IntG.nu8 (by omega) ?_ | refine IntG.nu32 (by omega) ?_ | refine IntG.nu64 (by omega) ?_ | refine IntG.wr' rfl ?_ | refine Chk.mk (by omega) ?_ | (refine BrG.id ?_; first | with_reducible refine BrG.t ?_ | with_reducible refine BrG.f ?_ | with_reducible refine BrG.notG ?_ | with_reducible refine BrG.nn ?_ | with_reducible refine BrG.ns ?_ | refine BrG.pos (by omega) ?_ | refine BrG.neg (by omega) ?_) | refine Chk.mk (ptr_ok tblOk rfl rfl) ?_)
        refine ⟨k + 1, ⟨rfl, rfl, rfl, rfl, trivial⟩, ⟨by omega, ?_, hS⟩, by omega⟩
        rw [List.take_succ_eq_append_getElem hkl, List.take_succ_eq_append_getElem hkq, heq, he]
      · refine BrG.neg he ?_
        repeat (first | refine SemW.run tblOk ?_ | refine IntG.nw (by omega) ?_ | refine IntG.nu8 (by omega) ?_ | refine IntG.nu32 (by omega) ?_ | refine IntG.nu64 (by omega) ?_ | refine IntG.wr' rfl ?_ | refine Chk.mk (by omega) ?_ | (refine BrG.id ?_; first | with_reducible refine BrG.t ?_ | with_reducible refine BrG.f ?_ | with_reducible refine BrG.notG ?_ | with_reducible refine BrG.nn ?_ | with_reducible refine BrG.ns ?_ | refine BrG.pos (by omega) ?_ | refine BrG.neg (by omega) ?_) | refine Chk.mk (ptr_ok tblOk rfl rfl) ?_)
        have : decide (ps = qs) = false := by
          apply decide_eq_false
          rintro rfl
          exact he rfl
        rw [this]
        exact ⟨rfl, hS⟩
    · have hke : k = ps.length := by omega
      subst hke
      repeat (first | refine SemW.run tblOk ?_ | refine IntG.nw (by omega) ?_ | refine IntG.nu8 (by omega) ?_ | refine IntG.nu32 (by omega) ?_ | refine IntG.nu64 (by omega) ?_ | refine IntG.wr' rfl ?_ | refine Chk.mk (by omega) ?_ | (refine BrG.id ?_; first | with_reducible refine BrG.t ?_ | with_reducible refine BrG.f ?_ | with_reducible refine BrG.notG ?_ | with_reducible refine BrG.nn ?_ | with_reducible refine BrG.ns ?_ | refine BrG.pos (by omega) ?_ | refine BrG.neg (by omega) ?_) | refine Chk.mk (ptr_ok tblOk rfl rfl) ?_)
      have : decide (ps = qs) = true := by
        apply decide_eq_true
        rw [List.take_length, hlen, List.take_length] at heq
        exact heq
      rw [this]
      exact ⟨rfl, hS⟩
  · repeat (first | refine SemW.run tblOk ?_ | refine IntG.nw (by omega) ?_ | refine IntG.nu8 (by omega) ?_ | refine IntG.nu32 (by omega) ?_ | refine IntG.nu64 (by omega) ?_ | refine IntG.wr' rfl ?_ | refine Chk.mk (by omega) ?_ | (refine BrG.id ?_; first | with_reducible refine BrG.t ?_ | with_reducible refine BrG.f ?_ | with_reducible refine BrG.notG ?_ | with_reducible refine BrG.nn ?_ | with_reducible refine BrG.ns ?_ | refine BrG.pos (by omega) ?_ | refine BrG.neg (by omega) ?_) | refine Chk.mk (ptr_ok tblOk rfl rfl) ?_)
    have : decide (ps = qs) = false := by
      apply decide_eq_false
      rintro rfl
      exact hlen rfl
    rw [this]
    exact ⟨rfl, hS⟩

/-! ### A frame is read back -/
theorem num4_app (n : Nat) (l : List UInt8) (hn : n < 4294967296) : num4 (be4 n ++ l) = n := by
  have : num4 (be4 n ++ l) = num4 (be4 n) := rfl
  rw [this, num4_be4 n hn]
theorem firstM_frame (pre p rest : Bytes) (hp : p.length ≤ 65536) : firstM (pre ++ (frameB p ++ rest)) pre.length = (p, pre.length + (8 + p.length), 0) := by
  have hd : (pre ++ (frameB p ++ rest)).drop pre.length = be4 p.length ++ (be4 (crcN [be4 p.length, p]) ++ (p ++ rest)) := by
    rw [List.drop_left]; simp [frameB]
  have hc := (crcN_eq [be4 p.length, p]).2
  unfold firstM
  rw [hd, num4_app _ _ (by omega)]
  have h4 : (be4 p.length ++ (be4 (crcN [be4 p.length, p]) ++ (p ++ rest))).take 4 = be4 p.length := rfl
  have h5 : (be4 p.length ++ (be4 (crcN [be4 p.length, p]) ++ (p ++ rest))).drop 4 = be4 (crcN [be4 p.length, p]) ++ (p ++ rest) := rfl
  have h6 : ((be4 p.length ++ (be4 (crcN [be4 p.length, p]) ++ (p ++ rest))).take (8 + p.length)).drop 8 = p := by
    rw [List.drop_take]
    have : (be4 p.length ++ (be4 (crcN [be4 p.length, p]) ++ (p ++ rest))).drop 8 = p ++ rest := rfl
    rw [this, show 8 + p.length - 8 = p.length by omega, List.take_left]
  rw [h4, h5, h6, num4_app _ _ hc, if_neg, if_neg, if_pos rfl]
  · simp; omega
  · simp [be4]; omega
  · simp [frameB, be4]
theorem firstM_end (t : Bytes) (k : Nat) (h : t.length < k + 8) : firstM t k = ([], 0, 1) := by
  unfold firstM; rw [if_pos h]
/-- Behind the whole frames stands something that is no frame. -/
theorem scanM_frames (tail : Bytes) (k : Nat) : ∀ (ps : List Bytes) (pre : Bytes) (fuel : Nat), okLens ps = true → ps.length < fuel → (firstM (pre ++ (sealB ps ++ tail)) (pre.length + (sealB ps).length)).2.2 ≠ 0 →
    scanM (pre ++ (sealB ps ++ tail)) fuel pre.length = (ps, pre.length + (sealB ps).length)
  | [], pre, fuel + 1, _, _, h => by
    simp only [scanM]
    have : (firstM (pre ++ (sealB [] ++ tail)) pre.length).2.2 ≠ 0 := h
    rw [if_pos this]; rfl
  | p :: ps, pre, fuel + 1, hok, hf, h => by
    simp only [okLens, List.all_cons, Bool.and_eq_true, decide_eq_true_eq] at hok
    have e1 : pre ++ (sealB (p :: ps) ++ tail) = pre ++ (frameB p ++ (sealB ps ++ tail)) := by simp [sealB]
    have e2 : (sealB (p :: ps)).length = 8 + p.length + (sealB ps).length := by simp [sealB, frameB_len]; omega
    have e3 : pre ++ (sealB (p :: ps) ++ tail) = (pre ++ frameB p) ++ (sealB ps ++ tail) := by rw [e1]; simp
    have e4 : (pre ++ frameB p).length = pre.length + (8 + p.length) := by simp [frameB_len]; omega
    simp only [scanM]
    rw [e2, e3] at h
    have ih := scanM_frames tail k ps (pre ++ frameB p) fuel (by simpa [okLens] using hok.2) (by simp at hf; omega) (by rw [e4, show pre.length + (8 + p.length) + (sealB ps).length = pre.length + (8 + p.length + (sealB ps).length) by omega]; exact h)
    have e5 : firstM (pre ++ (sealB (p :: ps) ++ tail)) pre.length = (p, pre.length + (8 + p.length), 0) := by rw [e1]; exact firstM_frame _ _ _ hok.1
    rw [e5]
    simp only [ne_eq, not_true_eq_false, if_false]
    rw [e3, ← e4, ih, e4, e2]
    simp; omega
theorem scan_seal (ps : List Bytes) (h : okLens ps = true) : scan (sealB ps) = (ps, (sealB ps).length) := by
  have h0 : (firstM ([] ++ (sealB ps ++ [])) (([] : Bytes).length + (sealB ps).length)).2.2 ≠ 0 := by
    rw [firstM_end _ _ (by simp)]; simp
  have h1 := scanM_frames [] 0 ps [] ((sealB ps).length + 1) h (by have := sealB_len ps; omega) h0
  simpa [scan] using h1
theorem sealB_app (ps qs : List Bytes) : sealB (ps ++ qs) = sealB ps ++ sealB qs := by simp [sealB]

/-! ### A calm file system with one file -/
abbrev logN : Bytes := [108, 111, 103]
/-- No file, or the one file, all of it synced. -/
def fsmT (o : Option Bytes) (k : Nat) : FSm := ⟨match o with | none => [] | some t => [(logN, (t, t.length))], [], k, k, false⟩
theorem logAppM_calm (o : Option Bytes) (k n : Nat) (ps : List Bytes) (hok : okLens ps = true) (hne : ps ≠ []) :
    logAppM (fsmT o k) logN n false false ps = (0, (n + ps.length, false), fsmT (some (o.getD [] ++ sealB ps)) (k + 2)) := by
  have h1 : (fsmT o k).off = false := rfl
  have h2 : appendM (fsmT o k) logN [sealB ps] = (0, ⟨[(logN, (o.getD [] ++ sealB ps, (o.getD []).length))], [], k + 1, k + 1, false⟩) := by
    cases o <;> simp [appendM, fsmT, named, logN, fateOf, kget, acted, kput, fget]
  have h3 : syncM ⟨[(logN, (o.getD [] ++ sealB ps, (o.getD []).length))], [], k + 1, k + 1, false⟩ logN = (0, fsmT (some (o.getD [] ++ sealB ps)) (k + 2)) := by
    simp [syncM, findM, fsmT, logN, fateOf, kget, acted, kput, fget]
  unfold logAppM
  rw [h1, if_neg (by simp), if_neg (by simp), if_neg (by simp [hok]), if_neg hne, h2]
  simp only [ne_eq, not_true_eq_false, if_false]
  rw [h3]
  simp
theorem logAppM_long (o : Option Bytes) (k n : Nat) (ps : List Bytes) (hok : okLens ps = false) : logAppM (fsmT o k) logN n false false ps = (2, (n, false), fsmT o k) := by
  simp [logAppM, fsmT, hok]
theorem logAppM_nil (o : Option Bytes) (k n : Nat) : logAppM (fsmT o k) logN n false false [] = (0, (n, false), fsmT o k) := by
  simp [logAppM, fsmT, okLens]
theorem findM_calm (o : Option Bytes) (k : Nat) : findM (fsmT o k) logN = match o with | none => (([], 0), 5) | some t => ((t, t.length), 0) := by
  cases o <;> simp [findM, fsmT, fget, kget, logN]
theorem openE_calm (o : Option Bytes) (k : Nat) : openE (fsmT o k) logN = 0 := by
  simp [openE, fsmT, named, logN]
theorem fget_calm (o : Option Bytes) (k : Nat) : ((fget (fsmT o k) logN).getD ([], 0)).1 = o.getD [] := by
  cases o <;> simp [fget, fsmT, kget, logN]
end Go.Proofs.Ytnmmiiffeenjbaa
