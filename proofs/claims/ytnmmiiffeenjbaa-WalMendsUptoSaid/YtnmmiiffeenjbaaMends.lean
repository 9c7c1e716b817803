/- tarmaclaw05.WalMends. -/
import Derived.Test.YtnmmiiffeenjbaaLasts
import Derived.Test.YtnmmiiffeenjbaaDel
namespace Go.Proofs.Ytnmmiiffeenjbaa
open Go Go.Eng Go.Proofs

theorem LogAppend_torn {w : World} {bl f : Nat} {L : Heap} {o : Option Bytes} {k n : Nat} (hF : FSo f (fsmT o k) L) (hh : Holds ((bl, logC f logN n true false) :: L) w) {a : Option Addr} {cap : Nat} {ps : List Bytes}
    (ha : Arr w (keys ((bl, logC f logN n true false) :: L)) a (ps.map Str)) (hps : sumLen ps + 8 * ps.length + (o.getD []).length ≤ 140737488355328) (hn : n + ps.length ≤ 9223372036854775807) (hk : k + 2 ≤ 9223372036854775807) :
    Cl Try.prog f_wal_Log_Append [ptr bl, .slice a ps.length cap] w fun v w' => v = .int .i64 8 ∧
      ∃ L', FSo f (fsmT o k) L' ∧ St w (keys ((bl, logC f logN n true false) :: L)) ((bl, logC f logN n true false) :: L') w' := by
  refine (LogAppend_spec (torn := true) (dead := false) hF hh ha (by rw [fget_calm]; exact hps) hn hk hk).mono ?_
  have : logAppM (fsmT o k) logN n true false ps = (8, (n, false), fsmT o k) := by
    cases o <;> simp [logAppM, fsmT]
  rw [this]
  exact fun v w' h => h
theorem Arr.takeL {w : World} {T : List Nat} {a : Option Addr} {xs : List Bytes} {x : Bytes} (h : Arr w T a ((xs ++ [x]).map Str)) : Arr w T a (xs.map Str) := by
  exact Arr.left h
theorem not_in {w0 w : World} {T : List Nat} {A B C : Heap} (hS : St w0 T (A ++ (B ++ C)) w) : ∀ b ∈ keys A, b ∉ keys B := by
  have := hS.nd
  rw [show keys (A ++ (B ++ C)) = keys A ++ (keys B ++ keys C) by simp [keys]] at this
  intro b hb hB
  exact (List.nodup_append.1 this).2.2 b hb b (List.mem_append_left _ hB) rfl

theorem sealX_len : (sealB [[120]]).length = 9 := by rw [sealB_len]; rfl

set_option maxHeartbeats 2000000 in
set_option maxRecDepth 4000 in
theorem WalMends_spec {w : World} {a0 : Option Addr} {c0 : Nat} {bss : List (List Bytes)} {more : Bytes} {n : Int} (hb0 : RSl 1 (RSl 1 RStr) w [.slice a0 bss.length c0] bss)
    (hB : sumLen bss.flatten + bss.flatten.length + bss.length ≤ 1048576) (hml : more.length ≤ 1048576) :
    Cl Try.prog f_tarmaclaw05_WalMends [.slice a0 bss.length c0, Str more, .int .i64 n] w fun v w' => v = .bool true ∧ St w [] [] w' := by
  have hS := St.start w
  refine en_tarmaclaw05_WalMends rfl ?_
  repeat (first | refine SemW.run tblOk ?_ | refine IntG.nw (by omega) ?_ | refine IntG.nu8 (by omega) ?_ | refine IntG.nu32 (by omega) ?_ | refine IntG.nu64 (by omega) ?_ | refine IntG.wr' rfl ?_ | refine Chk.mk (by omega) ?_ | (refine BrG.id ?_; first | with_reducible refine BrG.t ?_ | with_reducible refine BrG.f ?_ | with_reducible refine BrG.notG ?_ | with_reducible refine BrG.nn ?_ | with_reducible refine BrG.ns ?_ | refine BrG.pos (by omega) ?_ | refine BrG.neg (by omega) ?_) | refine Chk.mk (ptr_ok tblOk rfl rfl) ?_)
  refine lives5_spec.mono ?_
  rintro _ w1 ⟨rfl, hS'⟩
  have hS := hS.call0 hS'
  by_cases hmo : 65536 < more.length
  · repeat (first | refine SemW.run tblOk ?_ | refine IntG.nw (by omega) ?_ | refine IntG.nu8 (by omega) ?_ | refine IntG.nu32 (by omega) ?_ | refine IntG.nu64 (by omega) ?_ | refine IntG.wr' rfl ?_ | refine Chk.mk (by omega) ?_ | (refine BrG.id ?_; first | with_reducible refine BrG.t ?_ | with_reducible refine BrG.f ?_ | with_reducible refine BrG.notG ?_ | with_reducible refine BrG.nn ?_ | with_reducible refine BrG.ns ?_ | refine BrG.pos (by omega) ?_ | refine BrG.neg (by omega) ?_) | refine Chk.mk (ptr_ok tblOk rfl rfl) ?_)
    exact ⟨congrArg Value.bool (decide_eq_true (by omega)), hS.nil⟩
  repeat (first | refine SemW.run tblOk ?_ | refine IntG.nw (by omega) ?_ | refine IntG.nu8 (by omega) ?_ | refine IntG.nu32 (by omega) ?_ | refine IntG.nu64 (by omega) ?_ | refine IntG.wr' rfl ?_ | refine Chk.mk (by omega) ?_ | (refine BrG.id ?_; first | with_reducible refine BrG.t ?_ | with_reducible refine BrG.f ?_ | with_reducible refine BrG.notG ?_ | with_reducible refine BrG.nn ?_ | with_reducible refine BrG.ns ?_ | refine BrG.pos (by omega) ?_ | refine BrG.neg (by omega) ?_) | refine Chk.mk (ptr_ok tblOk rfl rfl) ?_)
  refine New_spec.mono ?_
  rintro _ w2 ⟨f, L, rfl, hf, hF, hS'⟩
  have hS := hS.callNew hS'
  rw [List.append_nil] at hS
  have hF : FSo f (fsmT none 0) L := hF
  repeat (first | refine SemW.run tblOk ?_ | refine IntG.nw (by omega) ?_ | refine IntG.nu8 (by omega) ?_ | refine IntG.nu32 (by omega) ?_ | refine IntG.nu64 (by omega) ?_ | refine IntG.wr' rfl ?_ | refine Chk.mk (by omega) ?_ | (refine BrG.id ?_; first | with_reducible refine BrG.t ?_ | with_reducible refine BrG.f ?_ | with_reducible refine BrG.notG ?_ | with_reducible refine BrG.nn ?_ | with_reducible refine BrG.ns ?_ | refine BrG.pos (by omega) ?_ | refine BrG.neg (by omega) ?_) | refine Chk.mk (ptr_ok tblOk rfl rfl) ?_)
  refine (Open_calm hF (hS.part (L := L)) [] rfl rfl (by simp [sealB]) _ rfl).mono ?_
  rintro _ w3 ⟨bl, a, cap, Lv, hbl, rfl, hv, hS'⟩
  have hS := (hS.call (L := L) hS').sub (List.sublist_append_right _ _)
  repeat (first | refine SemW.run tblOk ?_ | refine IntG.nw (by omega) ?_ | refine IntG.nu8 (by omega) ?_ | refine IntG.nu32 (by omega) ?_ | refine IntG.nu64 (by omega) ?_ | refine IntG.wr' rfl ?_ | refine Chk.mk (by omega) ?_ | (refine BrG.id ?_; first | with_reducible refine BrG.t ?_ | with_reducible refine BrG.f ?_ | with_reducible refine BrG.notG ?_ | with_reducible refine BrG.nn ?_ | with_reducible refine BrG.ns ?_ | refine BrG.pos (by omega) ?_ | refine BrG.neg (by omega) ?_) | refine Chk.mk (ptr_ok tblOk rfl rfl) ?_)
  refine SemW.loop (fun x : Nat => [(1, Str more), (2, .int .i64 n), (7, ptr f), (8, ptr bl), (44, .slice a0 bss.length c0), (45, .int .i64 bss.length), (46, .int .i64 x)])
    (fun x w' => x ≤ bss.length ∧ ∃ o kk su L, o.getD [] = sealB su ∧ okLens su = true ∧ kk ≤ 2 * x ∧ sumLen su ≤ sumLen (bss.take x).flatten ∧ su.length ≤ (bss.take x).flatten.length ∧ FSo f (fsmT o kk) L ∧
      St w [] ((bl, logC f logN su.length false false) :: L) w') (fun x => bss.length - x) 0
    ⟨rfl, rfl, rfl, rfl, rfl, rfl, rfl, trivial⟩ ⟨Nat.zero_le _, none, 0, [], L, rfl, rfl, by omega, by simp, by simp, hF, hS⟩ ?_
  rintro k w5 ⟨hk, o, kk, su, L2, ho, hok, hkk, hsl, hln, hF, hS⟩
  have hle := flat_take_le bss k
  have hsb := sealB_len su
  by_cases hkl : k < bss.length
  · obtain ⟨b, off, v, rfl, hcv, hRv⟩ := hb0.get hkl
    obtain ⟨ab, cb, rfl, hcb, hmb, hRb⟩ := hRv.inv
    have hab := hRb.strs
    have e1 := flat_take_succ bss k hkl
    have hle2 := flat_take_le bss (k + 1)
    rw [e1, sumLen_app, List.length_append] at hle2
    generalize bss[k] = ps at hcv hRb hab e1 hle2 hcb
    repeat (first | refine SemW.run tblOk ?_ | refine IntG.nw (by omega) ?_ | refine IntG.nu8 (by omega) ?_ | refine IntG.nu32 (by omega) ?_ | refine IntG.nu64 (by omega) ?_ | refine IntG.wr' rfl ?_ | refine Chk.mk (by omega) ?_ | (refine BrG.id ?_; first | with_reducible refine BrG.t ?_ | with_reducible refine BrG.f ?_ | with_reducible refine BrG.notG ?_ | with_reducible refine BrG.nn ?_ | with_reducible refine BrG.ns ?_ | refine BrG.pos (by omega) ?_ | refine BrG.neg (by omega) ?_) | refine Chk.mk (ptr_ok tblOk rfl rfl) ?_)
    refine hS.ldOld (by simp) (by simpa using hcv) ?_
    repeat (first | refine SemW.run tblOk ?_ | refine IntG.nw (by omega) ?_ | refine IntG.nu8 (by omega) ?_ | refine IntG.nu32 (by omega) ?_ | refine IntG.nu64 (by omega) ?_ | refine IntG.wr' rfl ?_ | refine Chk.mk (by omega) ?_ | (refine BrG.id ?_; first | with_reducible refine BrG.t ?_ | with_reducible refine BrG.f ?_ | with_reducible refine BrG.notG ?_ | with_reducible refine BrG.nn ?_ | with_reducible refine BrG.ns ?_ | refine BrG.pos (by omega) ?_ | refine BrG.neg (by omega) ?_) | refine Chk.mk (ptr_ok tblOk rfl rfl) ?_)
    by_cases hcalm : okLens ps = true ∧ ps ≠ []
    · refine (LogAppend_calm hF (hS.part (L := (bl, logC f logN su.length false false) :: L2)) (ps := ps) (St.arrNew hS hab) hcalm.1 hcalm.2 (by rw [ho]; omega) (by omega) (by omega)).mono ?_
      rintro _ w6 ⟨rfl, L3, hF, hS'⟩
      have hS := hS.call (L := (bl, logC f logN su.length false false) :: L2) hS'
      have hl3 : (su ++ ps).length = su.length + ps.length := List.length_append
      rw [← hl3] at hS
      repeat (first | refine SemW.run tblOk ?_ | refine IntG.nw (by omega) ?_ | refine IntG.nu8 (by omega) ?_ | refine IntG.nu32 (by omega) ?_ | refine IntG.nu64 (by omega) ?_ | refine IntG.wr' rfl ?_ | refine Chk.mk (by omega) ?_ | (refine BrG.id ?_; first | with_reducible refine BrG.t ?_ | with_reducible refine BrG.f ?_ | with_reducible refine BrG.notG ?_ | with_reducible refine BrG.nn ?_ | with_reducible refine BrG.ns ?_ | refine BrG.pos (by omega) ?_ | refine BrG.neg (by omega) ?_) | refine Chk.mk (ptr_ok tblOk rfl rfl) ?_)
      refine ⟨k + 1, ⟨rfl, rfl, rfl, rfl, rfl, rfl, rfl, trivial⟩, ⟨by omega, _, _, su ++ ps, L3, by rw [Option.getD_some, ho, sealB_app], by simp only [okLens_app, hok, hcalm.1, Bool.and_self], by omega, ?_, ?_, hF, hS⟩, by omega⟩
      · rw [e1, sumLen_app, sumLen_app]; omega
      · rw [e1, List.length_append, List.length_append]; omega
    · refine (LogAppend_none hF (hS.part (L := (bl, logC f logN su.length false false) :: L2)) (ps := ps) (St.arrNew hS hab) ?_ (by rw [ho]; omega) (by omega) (by omega)).mono ?_
      · by_cases h1 : okLens ps = true
        · right
          exact Classical.byContradiction fun h2 => hcalm ⟨h1, h2⟩
        · left; simpa using h1
      rintro _ w6 ⟨rfl, L3, hF, hS'⟩
      have hS := hS.call (L := (bl, logC f logN su.length false false) :: L2) hS'
      repeat (first | refine SemW.run tblOk ?_ | refine IntG.nw (by omega) ?_ | refine IntG.nu8 (by omega) ?_ | refine IntG.nu32 (by omega) ?_ | refine IntG.nu64 (by omega) ?_ | refine IntG.wr' rfl ?_ | refine Chk.mk (by omega) ?_ | (refine BrG.id ?_; first | with_reducible refine BrG.t ?_ | with_reducible refine BrG.f ?_ | with_reducible refine BrG.notG ?_ | with_reducible refine BrG.nn ?_ | with_reducible refine BrG.ns ?_ | refine BrG.pos (by omega) ?_ | refine BrG.neg (by omega) ?_) | refine Chk.mk (ptr_ok tblOk rfl rfl) ?_)
      refine ⟨k + 1, ⟨rfl, rfl, rfl, rfl, rfl, rfl, rfl, trivial⟩, ⟨by omega, o, kk, su, L3, ho, hok, by omega, ?_, ?_, hF, hS⟩, by omega⟩
      · rw [e1, sumLen_app]; omega
      · rw [e1, List.length_append]; omega
  · repeat (first | refine SemW.run tblOk ?_ | refine IntG.nw (by omega) ?_ | refine IntG.nu8 (by omega) ?_ | refine IntG.nu32 (by omega) ?_ | refine IntG.nu64 (by omega) ?_ | refine IntG.wr' rfl ?_ | refine Chk.mk (by omega) ?_ | (refine BrG.id ?_; first | with_reducible refine BrG.t ?_ | with_reducible refine BrG.f ?_ | with_reducible refine BrG.notG ?_ | with_reducible refine BrG.nn ?_ | with_reducible refine BrG.ns ?_ | refine BrG.pos (by omega) ?_ | refine BrG.neg (by omega) ?_) | refine Chk.mk (ptr_ok tblOk rfl rfl) ?_)
    refine hS.al ?_
    intro r1 w6 _ hS
    repeat (first | refine SemW.run tblOk ?_ | refine IntG.nw (by omega) ?_ | refine IntG.nu8 (by omega) ?_ | refine IntG.nu32 (by omega) ?_ | refine IntG.nu64 (by omega) ?_ | refine IntG.wr' rfl ?_ | refine Chk.mk (by omega) ?_ | (refine BrG.id ?_; first | with_reducible refine BrG.t ?_ | with_reducible refine BrG.f ?_ | with_reducible refine BrG.notG ?_ | with_reducible refine BrG.nn ?_ | with_reducible refine BrG.ns ?_ | refine BrG.pos (by omega) ?_ | refine BrG.neg (by omega) ?_) | refine Chk.mk (ptr_ok tblOk rfl rfl) ?_)
    refine (Arm_spec hF (hS.part (L := L2)) (fs := [(0, 2)]) (show Arr _ _ _ (fateC [(0, 2)]) from hS.arr (b := r1) (nodup_two hS)) (by simp)).mono ?_
    rintro _ w7 ⟨L3, hF, hS'⟩
    have hS := (hS.call (L := L2) hS').sub (List.sublist_cons_self _ _)
    have hW0 : Whole ({ fsmT o kk with fates := armK [(0, 2)] 1, armed := 0 }) (sealB su) := ⟨rfl, o.map fun t => (t, t.length), by cases o <;> rfl, by cases o <;> simp_all⟩
    have hA0 : ({ fsmT o kk with fates := armK [(0, 2)] 1, armed := 0 }).armed = 0 := rfl
    have hC0 : ({ fsmT o kk with fates := armK [(0, 2)] 1, armed := 0 }).acts = kk := rfl
    have hF : FSo f ({ fsmT o kk with fates := armK [(0, 2)] 1, armed := 0 }) L3 := hF
    generalize ({ fsmT o kk with fates := armK [(0, 2)] 1, armed := 0 } : FSm) = m0 at hF hW0 hA0 hC0
    repeat (first | refine SemW.run tblOk ?_ | refine IntG.nw (by omega) ?_ | refine IntG.nu8 (by omega) ?_ | refine IntG.nu32 (by omega) ?_ | refine IntG.nu64 (by omega) ?_ | refine IntG.wr' rfl ?_ | refine Chk.mk (by omega) ?_ | (refine BrG.id ?_; first | with_reducible refine BrG.t ?_ | with_reducible refine BrG.f ?_ | with_reducible refine BrG.notG ?_ | with_reducible refine BrG.nn ?_ | with_reducible refine BrG.ns ?_ | refine BrG.pos (by omega) ?_ | refine BrG.neg (by omega) ?_) | refine Chk.mk (ptr_ok tblOk rfl rfl) ?_)
    refine hS.al ?_
    intro r2 w8 _ hS
    repeat (first | refine SemW.run tblOk ?_ | refine IntG.nw (by omega) ?_ | refine IntG.nu8 (by omega) ?_ | refine IntG.nu32 (by omega) ?_ | refine IntG.nu64 (by omega) ?_ | refine IntG.wr' rfl ?_ | refine Chk.mk (by omega) ?_ | (refine BrG.id ?_; first | with_reducible refine BrG.t ?_ | with_reducible refine BrG.f ?_ | with_reducible refine BrG.notG ?_ | with_reducible refine BrG.nn ?_ | with_reducible refine BrG.ns ?_ | refine BrG.pos (by omega) ?_ | refine BrG.neg (by omega) ?_) | refine Chk.mk (ptr_ok tblOk rfl rfl) ?_)
    have hs1 : sumLen [more] = more.length := by simp [sumLen]
    refine (LogAppend_spec (torn := false) (dead := false) hF (hS.part (L := (bl, logC f logN su.length false false) :: L3)) (ps := [more]) (hS.arr (b := r2) (nodup_new hS)) ?_ (by simp; omega) (by omega) (by omega)).mono ?_
    · obtain ⟨-, o, hf, ho⟩ := hW0
      have : fget m0 logN = o := by unfold fget; rw [hf, kget_one]
      rw [this, ho, hs1]
      simp only [List.length_singleton]; omega
    obtain ⟨e, n', dead, m', su', y, cu, hl, hBr, hy, hok1, hok2, g1, g2, g3, g4⟩ := wl_any hW0 hok su.length [more]
    rw [hl]
    rintro v w9 ⟨-, L4, hF, hS'⟩
    have hS := (hS.call (L := (bl, logC f logN su.length false false) :: L3) hS').sub (List.Sublist.cons _ (List.sublist_cons_self _ _))
    clear hl
    rw [hs1] at g1 g3
    simp only [List.length_singleton] at g2 g4
    obtain ⟨oo, hmf, hsy, hll, hcr⟩ := hBr.crash
    obtain ⟨j, o', ho1, ho2⟩ := hcr [n]
    have hsl := sealB_len su'
    have hsl2 := sealB_len cu
    have hyl : y.length ≤ (sealB cu).length := by rcases hy with rfl | rfl <;> simp
    have hoj : ∃ j, o'.getD [] = sealB su' ++ (sealB cu).take j := by
      rcases hy with rfl | rfl
      · exact ⟨0, by rw [ho2]; simp⟩
      · exact ⟨j, ho2⟩
    obtain ⟨j2, hoj⟩ := hoj
    repeat (first | refine SemW.run tblOk ?_ | refine IntG.nw (by omega) ?_ | refine IntG.nu8 (by omega) ?_ | refine IntG.nu32 (by omega) ?_ | refine IntG.nu64 (by omega) ?_ | refine IntG.wr' rfl ?_ | refine Chk.mk (by omega) ?_ | (refine BrG.id ?_; first | with_reducible refine BrG.t ?_ | with_reducible refine BrG.f ?_ | with_reducible refine BrG.notG ?_ | with_reducible refine BrG.nn ?_ | with_reducible refine BrG.ns ?_ | refine BrG.pos (by omega) ?_ | refine BrG.neg (by omega) ?_) | refine Chk.mk (ptr_ok tblOk rfl rfl) ?_)
    refine hS.al ?_
    intro r w10 _ hS
    repeat (first | refine SemW.run tblOk ?_ | refine IntG.nw (by omega) ?_ | refine IntG.nu8 (by omega) ?_ | refine IntG.nu32 (by omega) ?_ | refine IntG.nu64 (by omega) ?_ | refine IntG.wr' rfl ?_ | refine Chk.mk (by omega) ?_ | (refine BrG.id ?_; first | with_reducible refine BrG.t ?_ | with_reducible refine BrG.f ?_ | with_reducible refine BrG.notG ?_ | with_reducible refine BrG.nn ?_ | with_reducible refine BrG.ns ?_ | refine BrG.pos (by omega) ?_ | refine BrG.neg (by omega) ?_) | refine Chk.mk (ptr_ok tblOk rfl rfl) ?_)
    refine (Crash_files hmf hF (hS.part (L := L4)) rfl (cuts := [n]) (hS.arr (b := r) (nodup_new hS)) (by simp) hsy (by rw [hll, List.length_append]; omega)).mono ?_
    rintro _ w11 ⟨g, Lg, rfl, hG, hS'⟩
    rw [ho1] at hG
    have hS := (hS.call (L := L4) hS').sub (H' := Lg) (List.Sublist.cons _ (List.sublist_append_left _ _))
    repeat (first | refine SemW.run tblOk ?_ | refine IntG.nw (by omega) ?_ | refine IntG.nu8 (by omega) ?_ | refine IntG.nu32 (by omega) ?_ | refine IntG.nu64 (by omega) ?_ | refine IntG.wr' rfl ?_ | refine Chk.mk (by omega) ?_ | (refine BrG.id ?_; first | with_reducible refine BrG.t ?_ | with_reducible refine BrG.f ?_ | with_reducible refine BrG.notG ?_ | with_reducible refine BrG.nn ?_ | with_reducible refine BrG.ns ?_ | refine BrG.pos (by omega) ?_ | refine BrG.neg (by omega) ?_) | refine Chk.mk (ptr_ok tblOk rfl rfl) ?_)
    refine (Open_cut hG (hS.part (L := Lg)) su' cu j2 hoj hok1 hok2 (by rw [List.length_append, List.length_take]; omega)).mono ?_
    rintro _ w12 ⟨i, bl2, a2, cap2, Lv3, hi, ⟨t, ht⟩, -, rfl, hv3, hS'⟩
    have hS := hS.call (L := Lg) hS'
    have hokF : okLens (su' ++ cu.take i) = true := by rw [okLens_app, hok1, okLens_take cu hok2]; rfl
    have hlF : (su' ++ cu.take i).length = su'.length + i := by simp; omega
    have hsF : sumLen (su' ++ cu.take i) ≤ 3145728 := by
      have : sumLen (cu.take i) ≤ sumLen cu := sumLen_take_le cu i
      rw [sumLen_app]; omega
    rw [← hlF] at hv3 hS ⊢
    generalize su' ++ cu.take i = F at hv3 hS ht hokF hlF hsF ⊢
    have hsbF := sealB_len F
    have hoL : (o'.getD []).length ≤ 140737488355000 := by
      rw [hoj, List.length_append, List.length_take]; omega
    repeat (first | refine SemW.run tblOk ?_ | refine IntG.nw (by omega) ?_ | refine IntG.nu8 (by omega) ?_ | refine IntG.nu32 (by omega) ?_ | refine IntG.nu64 (by omega) ?_ | refine IntG.wr' rfl ?_ | refine Chk.mk (by omega) ?_ | (refine BrG.id ?_; first | with_reducible refine BrG.t ?_ | with_reducible refine BrG.f ?_ | with_reducible refine BrG.notG ?_ | with_reducible refine BrG.nn ?_ | with_reducible refine BrG.ns ?_ | refine BrG.pos (by omega) ?_ | refine BrG.neg (by omega) ?_) | refine Chk.mk (ptr_ok tblOk rfl rfl) ?_)
    refine (Torn_spec (hS.part (L := (bl2, logC g logN F.length (!decide ((sealB F).length = (o'.getD []).length)) false) :: Lg))).mono ?_
    rintro _ w13 ⟨rfl, hS'⟩
    have hS := hS.call0 hS'
    by_cases hT : (sealB F).length = (o'.getD []).length
    · rw [decide_eq_true hT] at hS ⊢
      have hoF : o'.getD [] = sealB F := by
        rw [ht] at hT ⊢
        have : t = [] := List.eq_nil_of_length_eq_zero (by rw [List.length_append] at hT; omega)
        rw [this, List.append_nil]
      have hS : St w [] (Lv3 ++ (bl2, logC g logN F.length false false) :: Lg) _ := hS
      obtain ⟨kk2, hk0, hG⟩ : ∃ kk2, kk2 ≤ 3 ∧ FSo g (fsmT o' kk2) Lg := ⟨0, by omega, hG⟩
      repeat (first | refine SemW.run tblOk ?_ | refine IntG.nw (by omega) ?_ | refine IntG.nu8 (by omega) ?_ | refine IntG.nu32 (by omega) ?_ | refine IntG.nu64 (by omega) ?_ | refine IntG.wr' rfl ?_ | refine Chk.mk (by omega) ?_ | (refine BrG.id ?_; first | with_reducible refine BrG.t ?_ | with_reducible refine BrG.f ?_ | with_reducible refine BrG.notG ?_ | with_reducible refine BrG.nn ?_ | with_reducible refine BrG.ns ?_ | refine BrG.pos (by omega) ?_ | refine BrG.neg (by omega) ?_) | refine Chk.mk (ptr_ok tblOk rfl rfl) ?_)
      refine hS.al ?_
      intro r5 w20 _ hS
      repeat (first | refine SemW.run tblOk ?_ | refine IntG.nw (by omega) ?_ | refine IntG.nu8 (by omega) ?_ | refine IntG.nu32 (by omega) ?_ | refine IntG.nu64 (by omega) ?_ | refine IntG.wr' rfl ?_ | refine Chk.mk (by omega) ?_ | (refine BrG.id ?_; first | with_reducible refine BrG.t ?_ | with_reducible refine BrG.f ?_ | with_reducible refine BrG.notG ?_ | with_reducible refine BrG.nn ?_ | with_reducible refine BrG.ns ?_ | refine BrG.pos (by omega) ?_ | refine BrG.neg (by omega) ?_) | refine Chk.mk (ptr_ok tblOk rfl rfl) ?_)
      refine (LogAppend_calm hG (hS.part (L := (bl2, logC g logN F.length false false) :: Lg)) (ps := [[120]]) (hS.arr (b := r5) (fun h => nodup_new hS (keys_right h))) rfl (by simp) ?_ (by simp; omega) (by omega)).mono ?_
      · rw [hoF, show sumLen [[120]] = 1 from rfl, show ([[120]] : List Bytes).length = 1 from rfl]; omega
      rintro _ w21 ⟨rfl, L7, hG, hS'⟩
      have hS := (hS.call (L := (bl2, logC g logN F.length false false) :: Lg) hS').sub (List.sublist_cons_self _ _)
      repeat (first | refine SemW.run tblOk ?_ | refine IntG.nw (by omega) ?_ | refine IntG.nu8 (by omega) ?_ | refine IntG.nu32 (by omega) ?_ | refine IntG.nu64 (by omega) ?_ | refine IntG.wr' rfl ?_ | refine Chk.mk (by omega) ?_ | (refine BrG.id ?_; first | with_reducible refine BrG.t ?_ | with_reducible refine BrG.f ?_ | with_reducible refine BrG.notG ?_ | with_reducible refine BrG.nn ?_ | with_reducible refine BrG.ns ?_ | refine BrG.pos (by omega) ?_ | refine BrG.neg (by omega) ?_) | refine Chk.mk (ptr_ok tblOk rfl rfl) ?_)
      refine (Count_spec (hS.part (L := (bl2, logC g logN (F.length + [([120] : Bytes)].length) false false) :: L7))).mono ?_
      rintro _ w22 ⟨rfl, hS'⟩
      have hS := hS.call0 hS'
      repeat (first | refine SemW.run tblOk ?_ | refine IntG.nw (by omega) ?_ | refine IntG.nu8 (by omega) ?_ | refine IntG.nu32 (by omega) ?_ | refine IntG.nu64 (by omega) ?_ | refine IntG.wr' rfl ?_ | refine Chk.mk (by omega) ?_ | (refine BrG.id ?_; first | with_reducible refine BrG.t ?_ | with_reducible refine BrG.f ?_ | with_reducible refine BrG.notG ?_ | with_reducible refine BrG.nn ?_ | with_reducible refine BrG.ns ?_ | refine BrG.pos (by omega) ?_ | refine BrG.neg (by omega) ?_) | refine Chk.mk (ptr_ok tblOk rfl rfl) ?_)
      refine BrG.pos (by simp) ?_
      repeat (first | refine SemW.run tblOk ?_ | refine IntG.nw (by omega) ?_ | refine IntG.nu8 (by omega) ?_ | refine IntG.nu32 (by omega) ?_ | refine IntG.nu64 (by omega) ?_ | refine IntG.wr' rfl ?_ | refine Chk.mk (by omega) ?_ | (refine BrG.id ?_; first | with_reducible refine BrG.t ?_ | with_reducible refine BrG.f ?_ | with_reducible refine BrG.notG ?_ | with_reducible refine BrG.nn ?_ | with_reducible refine BrG.ns ?_ | refine BrG.pos (by omega) ?_ | refine BrG.neg (by omega) ?_) | refine Chk.mk (ptr_ok tblOk rfl rfl) ?_)
      have hsx : sealB (F ++ [[120]]) = sealB F ++ sealB [[120]] := sealB_app _ _
      refine (Open_calm hG (hS.part (L := L7)) (F ++ [[120]]) (by rw [Option.getD_some, hoF, hsx]) (by rw [okLens_app, hokF]; rfl) (by rw [hsx, List.length_append, sealX_len]; omega) (F.length + 1) (by simp)).mono ?_
      rintro _ w23 ⟨bl5, a5, cap5, Lv5, -, rfl, hv5, hS'⟩
      have hS := (hS.call (L := L7) hS').sub (H' := Lv3 ++ Lv5) (List.Sublist.append (List.Sublist.refl _) (List.Sublist.cons _ (List.sublist_append_left _ _)))
      rcases hv5.inv with ⟨-, h, -⟩ | ⟨g5, l5, ha5, -, -, hcap5, hL5⟩
      · exact absurd h (by omega)
      subst ha5
      repeat (first | refine SemW.run tblOk ?_ | refine IntG.nw (by omega) ?_ | refine IntG.nu8 (by omega) ?_ | refine IntG.nu32 (by omega) ?_ | refine IntG.nu64 (by omega) ?_ | refine IntG.wr' rfl ?_ | refine Chk.mk (by omega) ?_ | (refine BrG.id ?_; first | with_reducible refine BrG.t ?_ | with_reducible refine BrG.f ?_ | with_reducible refine BrG.notG ?_ | with_reducible refine BrG.nn ?_ | with_reducible refine BrG.ns ?_ | refine BrG.pos (by omega) ?_ | refine BrG.neg (by omega) ?_) | refine Chk.mk (ptr_ok tblOk rfl rfl) ?_)
      refine Cl.mono (Same_specN (ps := F) (qs := F) (by simp) rfl (Arr.takeL (hv5.arr hS (by simp))) (hv3.arr hS (by simp)) (by omega)) ?_
      rintro _ w24 ⟨rfl, hS'⟩
      have hS := hS.call0 hS'
      subst hL5
      repeat (first | refine SemW.run tblOk ?_ | refine IntG.nw (by omega) ?_ | refine IntG.nu8 (by omega) ?_ | refine IntG.nu32 (by omega) ?_ | refine IntG.nu64 (by omega) ?_ | refine IntG.wr' rfl ?_ | refine Chk.mk (by omega) ?_ | (refine BrG.id ?_; first | with_reducible refine BrG.t ?_ | with_reducible refine BrG.f ?_ | with_reducible refine BrG.notG ?_ | with_reducible refine BrG.nn ?_ | with_reducible refine BrG.ns ?_ | refine BrG.pos (by omega) ?_ | refine BrG.neg (by omega) ?_) | refine Chk.mk (ptr_ok tblOk rfl rfl) ?_)
      refine BrG.pos rfl ?_
      repeat (first | refine SemW.run tblOk ?_ | refine IntG.nw (by omega) ?_ | refine IntG.nu8 (by omega) ?_ | refine IntG.nu32 (by omega) ?_ | refine IntG.nu64 (by omega) ?_ | refine IntG.wr' rfl ?_ | refine Chk.mk (by omega) ?_ | (refine BrG.id ?_; first | with_reducible refine BrG.t ?_ | with_reducible refine BrG.f ?_ | with_reducible refine BrG.notG ?_ | with_reducible refine BrG.nn ?_ | with_reducible refine BrG.ns ?_ | refine BrG.pos (by omega) ?_ | refine BrG.neg (by omega) ?_) | refine Chk.mk (ptr_ok tblOk rfl rfl) ?_)
      refine hS.ld (v := Str [120]) ?_ ?_
      · rw [show 0 + ((F.length : Int)).toNat * 1 = F.length by omega]
        simp
      repeat (first | refine SemW.run tblOk ?_ | refine IntG.nw (by omega) ?_ | refine IntG.nu8 (by omega) ?_ | refine IntG.nu32 (by omega) ?_ | refine IntG.nu64 (by omega) ?_ | refine IntG.wr' rfl ?_ | refine Chk.mk (by omega) ?_ | (refine BrG.id ?_; first | with_reducible refine BrG.t ?_ | with_reducible refine BrG.f ?_ | with_reducible refine BrG.notG ?_ | with_reducible refine BrG.nn ?_ | with_reducible refine BrG.ns ?_ | refine BrG.pos (by omega) ?_ | refine BrG.neg (by omega) ?_) | refine Chk.mk (ptr_ok tblOk rfl rfl) ?_)
      exact ⟨congrArg Value.bool (decide_eq_true rfl), hS.nil⟩
    · rw [decide_eq_false hT] at hS ⊢
      have hS : St w [] (Lv3 ++ (bl2, logC g logN F.length true false) :: Lg) _ := hS
      repeat (first | refine SemW.run tblOk ?_ | refine IntG.nw (by omega) ?_ | refine IntG.nu8 (by omega) ?_ | refine IntG.nu32 (by omega) ?_ | refine IntG.nu64 (by omega) ?_ | refine IntG.wr' rfl ?_ | refine Chk.mk (by omega) ?_ | (refine BrG.id ?_; first | with_reducible refine BrG.t ?_ | with_reducible refine BrG.f ?_ | with_reducible refine BrG.notG ?_ | with_reducible refine BrG.nn ?_ | with_reducible refine BrG.ns ?_ | refine BrG.pos (by omega) ?_ | refine BrG.neg (by omega) ?_) | refine Chk.mk (ptr_ok tblOk rfl rfl) ?_)
      refine hS.al ?_
      intro r4 w14 _ hS
      repeat (first | refine SemW.run tblOk ?_ | refine IntG.nw (by omega) ?_ | refine IntG.nu8 (by omega) ?_ | refine IntG.nu32 (by omega) ?_ | refine IntG.nu64 (by omega) ?_ | refine IntG.wr' rfl ?_ | refine Chk.mk (by omega) ?_ | (refine BrG.id ?_; first | with_reducible refine BrG.t ?_ | with_reducible refine BrG.f ?_ | with_reducible refine BrG.notG ?_ | with_reducible refine BrG.nn ?_ | with_reducible refine BrG.ns ?_ | refine BrG.pos (by omega) ?_ | refine BrG.neg (by omega) ?_) | refine Chk.mk (ptr_ok tblOk rfl rfl) ?_)
      refine (LogAppend_torn hG (hS.part (L := (bl2, logC g logN F.length true false) :: Lg)) (ps := [[120]]) (hS.arr (b := r4) (fun h => nodup_new hS (keys_right h))) (by simp [sumLen]; omega) (by simp; omega) (by omega)).mono ?_
      rintro _ w15 ⟨rfl, L5, hG, hS'⟩
      have hS := (hS.call (L := (bl2, logC g logN F.length true false) :: Lg) hS').sub (List.sublist_cons_self _ _)
      repeat (first | refine SemW.run tblOk ?_ | refine IntG.nw (by omega) ?_ | refine IntG.nu8 (by omega) ?_ | refine IntG.nu32 (by omega) ?_ | refine IntG.nu64 (by omega) ?_ | refine IntG.wr' rfl ?_ | refine Chk.mk (by omega) ?_ | (refine BrG.id ?_; first | with_reducible refine BrG.t ?_ | with_reducible refine BrG.f ?_ | with_reducible refine BrG.notG ?_ | with_reducible refine BrG.nn ?_ | with_reducible refine BrG.ns ?_ | refine BrG.pos (by omega) ?_ | refine BrG.neg (by omega) ?_) | refine Chk.mk (ptr_ok tblOk rfl rfl) ?_)
      refine (Rewrite_calm hG (hS.part (L := L5)) (ps := F) (hv3.arr hS (nodup_far hS)) (by omega) (by omega)).mono ?_
      rw [hokF]
      simp only [if_true]
      rintro _ w16 ⟨rfl, L6, hG, hS'⟩
      have hS := (hS.call (L := L5) hS').sub (H' := Lv3 ++ L6) (List.Sublist.append (List.Sublist.refl _) (List.sublist_cons_self _ _))
      have hG : FSo g (fsmT (some (sealB F)) (if o'.isSome then 0 + 3 else 0 + 2)) L6 := hG
      obtain ⟨kk2, hk0, hG⟩ : ∃ kk2, kk2 ≤ 3 ∧ FSo g (fsmT (some (sealB F)) kk2) L6 := ⟨_, by split <;> omega, hG⟩
      repeat (first | refine SemW.run tblOk ?_ | refine IntG.nw (by omega) ?_ | refine IntG.nu8 (by omega) ?_ | refine IntG.nu32 (by omega) ?_ | refine IntG.nu64 (by omega) ?_ | refine IntG.wr' rfl ?_ | refine Chk.mk (by omega) ?_ | (refine BrG.id ?_; first | with_reducible refine BrG.t ?_ | with_reducible refine BrG.f ?_ | with_reducible refine BrG.notG ?_ | with_reducible refine BrG.nn ?_ | with_reducible refine BrG.ns ?_ | refine BrG.pos (by omega) ?_ | refine BrG.neg (by omega) ?_) | refine Chk.mk (ptr_ok tblOk rfl rfl) ?_)
      refine (Open_calm hG (hS.part (L := L6)) F rfl hokF (by omega) _ rfl).mono ?_
      rintro _ w17 ⟨bl3, a4, cap4, Lv4, -, rfl, hv4, hS'⟩
      have hS := hS.call (L := L6) hS'
      repeat (first | refine SemW.run tblOk ?_ | refine IntG.nw (by omega) ?_ | refine IntG.nu8 (by omega) ?_ | refine IntG.nu32 (by omega) ?_ | refine IntG.nu64 (by omega) ?_ | refine IntG.wr' rfl ?_ | refine Chk.mk (by omega) ?_ | (refine BrG.id ?_; first | with_reducible refine BrG.t ?_ | with_reducible refine BrG.f ?_ | with_reducible refine BrG.notG ?_ | with_reducible refine BrG.nn ?_ | with_reducible refine BrG.ns ?_ | refine BrG.pos (by omega) ?_ | refine BrG.neg (by omega) ?_) | refine Chk.mk (ptr_ok tblOk rfl rfl) ?_)
      refine (Torn_spec (hS.part (L := (bl3, logC g logN F.length false false) :: L6))).mono ?_
      rintro _ w18 ⟨rfl, hS'⟩
      have hS := hS.call0 hS'
      repeat (first | refine SemW.run tblOk ?_ | refine IntG.nw (by omega) ?_ | refine IntG.nu8 (by omega) ?_ | refine IntG.nu32 (by omega) ?_ | refine IntG.nu64 (by omega) ?_ | refine IntG.wr' rfl ?_ | refine Chk.mk (by omega) ?_ | (refine BrG.id ?_; first | with_reducible refine BrG.t ?_ | with_reducible refine BrG.f ?_ | with_reducible refine BrG.notG ?_ | with_reducible refine BrG.nn ?_ | with_reducible refine BrG.ns ?_ | refine BrG.pos (by omega) ?_ | refine BrG.neg (by omega) ?_) | refine Chk.mk (ptr_ok tblOk rfl rfl) ?_)
      refine (Same_spec (hv4.arr hS (by simp)) (hv3.arr hS (by simp)) (by omega)).mono ?_
      rintro _ w19 ⟨rfl, hS'⟩
      have hS := (hS.call0 hS').sub (H' := Lv3 ++ (bl3, logC g logN F.length false false) :: L6) (List.Sublist.append (List.Sublist.refl _) (List.sublist_append_right _ _))
      repeat (first | refine SemW.run tblOk ?_ | refine IntG.nw (by omega) ?_ | refine IntG.nu8 (by omega) ?_ | refine IntG.nu32 (by omega) ?_ | refine IntG.nu64 (by omega) ?_ | refine IntG.wr' rfl ?_ | refine Chk.mk (by omega) ?_ | (refine BrG.id ?_; first | with_reducible refine BrG.t ?_ | with_reducible refine BrG.f ?_ | with_reducible refine BrG.notG ?_ | with_reducible refine BrG.nn ?_ | with_reducible refine BrG.ns ?_ | refine BrG.pos (by omega) ?_ | refine BrG.neg (by omega) ?_) | refine Chk.mk (ptr_ok tblOk rfl rfl) ?_)
      refine BrG.pos rfl ?_
      repeat (first | refine SemW.run tblOk ?_ | refine IntG.nw (by omega) ?_ | refine IntG.nu8 (by omega) ?_ | refine IntG.nu32 (by omega) ?_ | refine IntG.nu64 (by omega) ?_ | refine IntG.wr' rfl ?_ | refine Chk.mk (by omega) ?_ | (refine BrG.id ?_; first | with_reducible refine BrG.t ?_ | with_reducible refine BrG.f ?_ | with_reducible refine BrG.notG ?_ | with_reducible refine BrG.nn ?_ | with_reducible refine BrG.ns ?_ | refine BrG.pos (by omega) ?_ | refine BrG.neg (by omega) ?_) | refine Chk.mk (ptr_ok tblOk rfl rfl) ?_)
      have hoF : (some (sealB F)).getD [] = sealB F := rfl
      refine hS.al ?_
      intro r5 w20 _ hS
      repeat (first | refine SemW.run tblOk ?_ | refine IntG.nw (by omega) ?_ | refine IntG.nu8 (by omega) ?_ | refine IntG.nu32 (by omega) ?_ | refine IntG.nu64 (by omega) ?_ | refine IntG.wr' rfl ?_ | refine Chk.mk (by omega) ?_ | (refine BrG.id ?_; first | with_reducible refine BrG.t ?_ | with_reducible refine BrG.f ?_ | with_reducible refine BrG.notG ?_ | with_reducible refine BrG.nn ?_ | with_reducible refine BrG.ns ?_ | refine BrG.pos (by omega) ?_ | refine BrG.neg (by omega) ?_) | refine Chk.mk (ptr_ok tblOk rfl rfl) ?_)
      refine (LogAppend_calm hG (hS.part (L := (bl3, logC g logN F.length false false) :: L6)) (ps := [[120]]) (hS.arr (b := r5) (fun h => nodup_new hS (keys_right h))) rfl (by simp) ?_ (by simp; omega) (by omega)).mono ?_
      · rw [hoF, show sumLen [[120]] = 1 from rfl, show ([[120]] : List Bytes).length = 1 from rfl]; omega
      rintro _ w21 ⟨rfl, L7, hG, hS'⟩
      have hS := (hS.call (L := (bl3, logC g logN F.length false false) :: L6) hS').sub (List.sublist_cons_self _ _)
      repeat (first | refine SemW.run tblOk ?_ | refine IntG.nw (by omega) ?_ | refine IntG.nu8 (by omega) ?_ | refine IntG.nu32 (by omega) ?_ | refine IntG.nu64 (by omega) ?_ | refine IntG.wr' rfl ?_ | refine Chk.mk (by omega) ?_ | (refine BrG.id ?_; first | with_reducible refine BrG.t ?_ | with_reducible refine BrG.f ?_ | with_reducible refine BrG.notG ?_ | with_reducible refine BrG.nn ?_ | with_reducible refine BrG.ns ?_ | refine BrG.pos (by omega) ?_ | refine BrG.neg (by omega) ?_) | refine Chk.mk (ptr_ok tblOk rfl rfl) ?_)
      refine (Count_spec (hS.part (L := (bl3, logC g logN (F.length + [([120] : Bytes)].length) false false) :: L7))).mono ?_
      rintro _ w22 ⟨rfl, hS'⟩
      have hS := hS.call0 hS'
      repeat (first | refine SemW.run tblOk ?_ | refine IntG.nw (by omega) ?_ | refine IntG.nu8 (by omega) ?_ | refine IntG.nu32 (by omega) ?_ | refine IntG.nu64 (by omega) ?_ | refine IntG.wr' rfl ?_ | refine Chk.mk (by omega) ?_ | (refine BrG.id ?_; first | with_reducible refine BrG.t ?_ | with_reducible refine BrG.f ?_ | with_reducible refine BrG.notG ?_ | with_reducible refine BrG.nn ?_ | with_reducible refine BrG.ns ?_ | refine BrG.pos (by omega) ?_ | refine BrG.neg (by omega) ?_) | refine Chk.mk (ptr_ok tblOk rfl rfl) ?_)
      refine BrG.pos (by simp) ?_
      repeat (first | refine SemW.run tblOk ?_ | refine IntG.nw (by omega) ?_ | refine IntG.nu8 (by omega) ?_ | refine IntG.nu32 (by omega) ?_ | refine IntG.nu64 (by omega) ?_ | refine IntG.wr' rfl ?_ | refine Chk.mk (by omega) ?_ | (refine BrG.id ?_; first | with_reducible refine BrG.t ?_ | with_reducible refine BrG.f ?_ | with_reducible refine BrG.notG ?_ | with_reducible refine BrG.nn ?_ | with_reducible refine BrG.ns ?_ | refine BrG.pos (by omega) ?_ | refine BrG.neg (by omega) ?_) | refine Chk.mk (ptr_ok tblOk rfl rfl) ?_)
      have hsx : sealB (F ++ [[120]]) = sealB F ++ sealB [[120]] := sealB_app _ _
      refine (Open_calm hG (hS.part (L := L7)) (F ++ [[120]]) (by rw [Option.getD_some, hoF, hsx]) (by rw [okLens_app, hokF]; rfl) (by rw [hsx, List.length_append, sealX_len]; omega) (F.length + 1) (by simp)).mono ?_
      rintro _ w23 ⟨bl5, a5, cap5, Lv5, -, rfl, hv5, hS'⟩
      have hS := (hS.call (L := L7) hS').sub (H' := Lv3 ++ Lv5) (List.Sublist.append (List.Sublist.refl _) (List.Sublist.cons _ (List.sublist_append_left _ _)))
      rcases hv5.inv with ⟨-, h, -⟩ | ⟨g5, l5, ha5, -, -, hcap5, hL5⟩
      · exact absurd h (by omega)
      subst ha5
      repeat (first | refine SemW.run tblOk ?_ | refine IntG.nw (by omega) ?_ | refine IntG.nu8 (by omega) ?_ | refine IntG.nu32 (by omega) ?_ | refine IntG.nu64 (by omega) ?_ | refine IntG.wr' rfl ?_ | refine Chk.mk (by omega) ?_ | (refine BrG.id ?_; first | with_reducible refine BrG.t ?_ | with_reducible refine BrG.f ?_ | with_reducible refine BrG.notG ?_ | with_reducible refine BrG.nn ?_ | with_reducible refine BrG.ns ?_ | refine BrG.pos (by omega) ?_ | refine BrG.neg (by omega) ?_) | refine Chk.mk (ptr_ok tblOk rfl rfl) ?_)
      refine Cl.mono (Same_specN (ps := F) (qs := F) (by simp) rfl (Arr.takeL (hv5.arr hS (by simp))) (hv3.arr hS (by simp)) (by omega)) ?_
      rintro _ w24 ⟨rfl, hS'⟩
      have hS := hS.call0 hS'
      subst hL5
      repeat (first | refine SemW.run tblOk ?_ | refine IntG.nw (by omega) ?_ | refine IntG.nu8 (by omega) ?_ | refine IntG.nu32 (by omega) ?_ | refine IntG.nu64 (by omega) ?_ | refine IntG.wr' rfl ?_ | refine Chk.mk (by omega) ?_ | (refine BrG.id ?_; first | with_reducible refine BrG.t ?_ | with_reducible refine BrG.f ?_ | with_reducible refine BrG.notG ?_ | with_reducible refine BrG.nn ?_ | with_reducible refine BrG.ns ?_ | refine BrG.pos (by omega) ?_ | refine BrG.neg (by omega) ?_) | refine Chk.mk (ptr_ok tblOk rfl rfl) ?_)
      refine BrG.pos rfl ?_
      repeat (first | refine SemW.run tblOk ?_ | refine IntG.nw (by omega) ?_ | refine IntG.nu8 (by omega) ?_ | refine IntG.nu32 (by omega) ?_ | refine IntG.nu64 (by omega) ?_ | refine IntG.wr' rfl ?_ | refine Chk.mk (by omega) ?_ | (refine BrG.id ?_; first | with_reducible refine BrG.t ?_ | with_reducible refine BrG.f ?_ | with_reducible refine BrG.notG ?_ | with_reducible refine BrG.nn ?_ | with_reducible refine BrG.ns ?_ | refine BrG.pos (by omega) ?_ | refine BrG.neg (by omega) ?_) | refine Chk.mk (ptr_ok tblOk rfl rfl) ?_)
      refine hS.ld (v := Str [120]) ?_ ?_
      · rw [show 0 + ((F.length : Int)).toNat * 1 = F.length by omega]
        simp
      repeat (first | refine SemW.run tblOk ?_ | refine IntG.nw (by omega) ?_ | refine IntG.nu8 (by omega) ?_ | refine IntG.nu32 (by omega) ?_ | refine IntG.nu64 (by omega) ?_ | refine IntG.wr' rfl ?_ | refine Chk.mk (by omega) ?_ | (refine BrG.id ?_; first | with_reducible refine BrG.t ?_ | with_reducible refine BrG.f ?_ | with_reducible refine BrG.notG ?_ | with_reducible refine BrG.nn ?_ | with_reducible refine BrG.ns ?_ | refine BrG.pos (by omega) ?_ | refine BrG.neg (by omega) ?_) | refine Chk.mk (ptr_ok tblOk rfl rfl) ?_)
      exact ⟨congrArg Value.bool (decide_eq_true rfl), hS.nil⟩
end Go.Proofs.Ytnmmiiffeenjbaa
