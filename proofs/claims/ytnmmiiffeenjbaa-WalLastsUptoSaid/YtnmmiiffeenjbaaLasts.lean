/- tarmaclaw05.WalLasts. -/
import Derived.Test.YtnmmiiffeenjbaaTorn
namespace Go.Proofs.Ytnmmiiffeenjbaa
open Go Go.Eng Go.Proofs

theorem flat_take_succ (bss : List (List Bytes)) (k : Nat) (hk : k < bss.length) : (bss.take (k + 1)).flatten = (bss.take k).flatten ++ bss[k] := by
  rw [List.take_succ_eq_append_getElem hk, List.flatten_append, List.flatten_cons, List.flatten_nil, List.append_nil]
theorem sumLen_app (a b : List Bytes) : sumLen (a ++ b) = sumLen a + sumLen b := by simp [sumLen]
theorem flat_take_le (bss : List (List Bytes)) (k : Nat) : sumLen (bss.take k).flatten ≤ sumLen bss.flatten ∧ (bss.take k).flatten.length ≤ bss.flatten.length := by
  have e : bss.flatten = (bss.take k).flatten ++ (bss.drop k).flatten := by
    rw [← List.flatten_append, List.take_append_drop]
  rw [e, sumLen_app, List.length_append]; omega
theorem Same_specN {w : World} {a b : Option Addr} {ca cb n m : Nat} {ps qs : List Bytes} (hn : n = ps.length) (hm : m = qs.length) (ha : Arr w [] a (ps.map Str)) (hb : Arr w [] b (qs.map Str)) (hl : ps.length ≤ 9000000000000000000) :
    Cl Try.prog f_tarmacref01_Same [.slice a n ca, .slice b m cb] w fun v w' => v = .bool (decide (ps = qs)) ∧ St w [] [] w' := by
  subst hn hm; exact Same_spec ha hb hl
theorem Arr.dropA {w : World} {T : List Nat} {g off cap : Nat} {xs ys : List Value} (h : Arr w T (some ⟨g, off, none⟩) (xs ++ ys)) (hc : xs.length + ys.length ≤ cap) : Arr w T (subA g off xs.length cap 1) ys := by
  unfold subA
  split
  · have : ys = [] := List.eq_nil_of_length_eq_zero (by omega)
    subst this; exact Arr.nil _ _ _
  · intro j x hj
    obtain ⟨b, o, h1, h2, h3⟩ := h (xs.length + j) x (by rw [List.getElem?_append_right (by omega), show xs.length + j - xs.length = j by omega]; exact hj)
    simp at h1
    obtain ⟨rfl, rfl⟩ := h1
    exact ⟨g, off + xs.length * 1, rfl, h2, by rw [show off + xs.length * 1 + j = off + (xs.length + j) by omega]; exact h3⟩
theorem Arr.left {w : World} {T : List Nat} {a : Option Addr} {ps qs : List Bytes} (h : Arr w T a ((ps ++ qs).map Str)) : Arr w T a (ps.map Str) := by
  rw [List.map_append] at h; exact fun j x hx => h j x (by rw [List.getElem?_append_left ((List.getElem?_eq_some_iff.1 hx).1)]; exact hx)
theorem Arr.right {w : World} {T : List Nat} {g off cap n : Nat} {ps qs : List Bytes} (h : Arr w T (some ⟨g, off, none⟩) ((ps ++ qs).map Str)) (hn : n = ps.length) (hc : ps.length + qs.length ≤ cap) : Arr w T (subA g off n cap 1) (qs.map Str) := by
  rw [List.map_append] at h
  have := Arr.dropA (cap := cap) h (by simpa using hc)
  rwa [List.length_map, ← hn] at this

/-- Behind the appends: what is sure, what was cut. -/
def afterJ (w : World) (B f bl : Nat) (x : (List Bytes × Option Addr × Nat) × (List Bytes × Option Addr × Nat)) (w' : World) : Prop :=
  ∃ m y L Lv o, Broken m (sealB x.1.1) y ∧ (y = [] ∨ y = sealB x.2.1) ∧ okLens x.1.1 = true ∧ okLens x.2.1 = true ∧ (x.2 = ([], none, 0) ∨ 0 < x.2.1.length ∧ x.2.1.length ≤ x.2.2.2) ∧ Vec T_string 1 x.1.2.1 x.1.1.length x.1.2.2 (x.1.1.map Str) Lv ∧ Arr w [] x.2.2.1 (x.2.1.map Str) ∧
    sumLen x.1.1 + x.1.1.length ≤ B ∧ sumLen x.2.1 + x.2.1.length ≤ B ∧ FSo f m L ∧ St w [] (Lv ++ (bl, o) :: L) w'

set_option maxHeartbeats 2000000 in
set_option maxRecDepth 4000 in
theorem WalLasts_spec {w : World} {a0 a1 : Option Addr} {c0 c1 : Nat} {bss : List (List Bytes)} {fs : List (Int × Int)} {n : Int} (hb0 : RSl 1 (RSl 1 RStr) w [.slice a0 bss.length c0] bss) (ha1 : Arr w [] a1 (fateC fs))
    (hB : sumLen bss.flatten + bss.flatten.length + bss.length ≤ 1048576) (hfl : fs.length ≤ 1048576) :
    Cl Try.prog f_tarmaclaw05_WalLasts [.slice a0 bss.length c0, .slice a1 fs.length c1, .int .i64 n] w fun v w' => v = .bool true ∧ St w [] [] w' := by
  have hS := St.start w
  refine en_tarmaclaw05_WalLasts rfl ?_
  repeat (first | refine SemW.run tblOk ?_ | refine IntG.nw (by omega) ?_ | refine IntG.nu8 (by omega) ?_ | refine IntG.nu32 (by omega) ?_ | refine IntG.nu64 (by omega) ?_ | refine IntG.wr' rfl ?_ | refine Chk.mk (by omega) ?_ | (refine BrG.id ?_; first | with_reducible refine BrG.t ?_ | with_reducible refine BrG.f ?_ | with_reducible refine BrG.notG ?_ | with_reducible refine BrG.nn ?_ | with_reducible refine BrG.ns ?_ | refine BrG.pos (by omega) ?_ | refine BrG.neg (by omega) ?_) | refine Chk.mk (ptr_ok tblOk rfl rfl) ?_)
  refine lives5_spec.mono ?_
  rintro _ w1 ⟨rfl, hS'⟩
  have hS := hS.call0 hS'
  repeat (first | refine SemW.run tblOk ?_ | refine IntG.nw (by omega) ?_ | refine IntG.nu8 (by omega) ?_ | refine IntG.nu32 (by omega) ?_ | refine IntG.nu64 (by omega) ?_ | refine IntG.wr' rfl ?_ | refine Chk.mk (by omega) ?_ | (refine BrG.id ?_; first | with_reducible refine BrG.t ?_ | with_reducible refine BrG.f ?_ | with_reducible refine BrG.notG ?_ | with_reducible refine BrG.nn ?_ | with_reducible refine BrG.ns ?_ | refine BrG.pos (by omega) ?_ | refine BrG.neg (by omega) ?_) | refine Chk.mk (ptr_ok tblOk rfl rfl) ?_)
  refine New_spec.mono ?_
  rintro _ w2 ⟨f, L, rfl, hf, hF, hS'⟩
  have hS := hS.callNew hS'
  rw [List.append_nil] at hS
  have hF : FSo f (fsmT none 0) L := hF
  repeat (first | refine SemW.run tblOk ?_ | refine IntG.nw (by omega) ?_ | refine IntG.nu8 (by omega) ?_ | refine IntG.nu32 (by omega) ?_ | refine IntG.nu64 (by omega) ?_ | refine IntG.wr' rfl ?_ | refine Chk.mk (by omega) ?_ | (refine BrG.id ?_; first | with_reducible refine BrG.t ?_ | with_reducible refine BrG.f ?_ | with_reducible refine BrG.notG ?_ | with_reducible refine BrG.nn ?_ | with_reducible refine BrG.ns ?_ | refine BrG.pos (by omega) ?_ | refine BrG.neg (by omega) ?_) | refine Chk.mk (ptr_ok tblOk rfl rfl) ?_)
  refine (Open_calm hF (hS.part (L := L)) [] rfl rfl (by simp [sealB]) _ rfl).mono ?_
  rintro _ w3 ⟨bl, a, cap, Lv, hbl, rfl, hv, hS'⟩
  have hS := (hS.call (L := L) hS').sub (List.sublist_append_right _ _)
  repeat (first | refine SemW.run tblOk ?_ | refine IntG.nw (by omega) ?_ | refine IntG.nu8 (by omega) ?_ | refine IntG.nu32 (by omega) ?_ | refine IntG.nu64 (by omega) ?_ | refine IntG.wr' rfl ?_ | refine Chk.mk (by omega) ?_ | (refine BrG.id ?_; first | with_reducible refine BrG.t ?_ | with_reducible refine BrG.f ?_ | with_reducible refine BrG.notG ?_ | with_reducible refine BrG.nn ?_ | with_reducible refine BrG.ns ?_ | refine BrG.pos (by omega) ?_ | refine BrG.neg (by omega) ?_) | refine Chk.mk (ptr_ok tblOk rfl rfl) ?_)
  refine (Arm_spec hF (hS.part (L := L)) (fs := fs) (St.arrNew hS ha1) (by omega)).mono ?_
  rintro _ w4 ⟨L1, hF, hS'⟩
  have hS := hS.call (L := L) hS'
  have hW0 : Whole ({ fsmT none 0 with fates := armK fs fs.length, armed := 0 }) (sealB []) := ⟨rfl, none, rfl, rfl⟩
  have hA0 : ({ fsmT none 0 with fates := armK fs fs.length, armed := 0 }).armed = 0 := rfl
  have hC0 : ({ fsmT none 0 with fates := armK fs fs.length, armed := 0 }).acts = 0 := rfl
  generalize ({ fsmT none 0 with fates := armK fs fs.length, armed := 0 } : FSm) = m0 at hF hW0 hA0 hC0
  repeat (first | refine SemW.run tblOk ?_ | refine IntG.nw (by omega) ?_ | refine IntG.nu8 (by omega) ?_ | refine IntG.nu32 (by omega) ?_ | refine IntG.nu64 (by omega) ?_ | refine IntG.wr' rfl ?_ | refine Chk.mk (by omega) ?_ | (refine BrG.id ?_; first | with_reducible refine BrG.t ?_ | with_reducible refine BrG.f ?_ | with_reducible refine BrG.notG ?_ | with_reducible refine BrG.nn ?_ | with_reducible refine BrG.ns ?_ | refine BrG.pos (by omega) ?_ | refine BrG.neg (by omega) ?_) | refine Chk.mk (ptr_ok tblOk rfl rfl) ?_)
  refine StopW.join (fun x : (List Bytes × Option Addr × Nat) × (List Bytes × Option Addr × Nat) => [(2, .int .i64 n), (7, ptr f), (11, .slice x.1.2.1 x.1.1.length x.1.2.2), (12, .slice x.2.2.1 x.2.1.length x.2.2.2)]) (afterJ w 1048576 f bl) ?_ ?_
  · refine SemW.loop (fun x : Nat × List Bytes × Option Addr × Nat => [(2, .int .i64 n), (7, ptr f), (8, ptr bl), (11, .slice x.2.2.1 x.2.1.length x.2.2.2), (12, .slice none 0 0), (39, .slice a0 bss.length c0), (40, .int .i64 bss.length), (41, .int .i64 x.1)])
      (fun x w' => x.1 ≤ bss.length ∧ ∃ m L Lv, Whole m (sealB x.2.1) ∧ okLens x.2.1 = true ∧ m.armed ≤ 2 * x.1 ∧ m.acts ≤ 2 * x.1 ∧ sumLen x.2.1 ≤ sumLen (bss.take x.1).flatten ∧ x.2.1.length ≤ (bss.take x.1).flatten.length ∧ FSo f m L ∧
        Vec T_string 1 x.2.2.1 x.2.1.length x.2.2.2 (x.2.1.map Str) Lv ∧ St w [] (Lv ++ (bl, logC f logN x.2.1.length false false) :: L) w') (fun x => bss.length - x.1) (0, [], none, 0)
      ⟨rfl, rfl, rfl, rfl, rfl, rfl, rfl, rfl, trivial⟩ ⟨Nat.zero_le _, m0, L1, [], hW0, rfl, by omega, by omega, by simp, by simp, hF, Vec.nil, hS⟩ ?_
    rintro ⟨k, su, va, vc⟩ w5 ⟨hk, m, L2, Lv2, hW, hok, har, hac, hsl, hln, hF, hv, hS⟩
    simp only at hk hW hok har hac hsl hln hv hS ⊢
    have hle := flat_take_le bss k
    by_cases hkl : k < bss.length
    · obtain ⟨b, off, v, rfl, hcv, hRv⟩ := hb0.get hkl
      obtain ⟨ab, cb, rfl, hcb, hmb, hRb⟩ := hRv.inv
      have hab := hRb.strs
      have e1 := flat_take_succ bss k hkl
      have hle2 := flat_take_le bss (k + 1)
      rw [e1, sumLen_app, List.length_append] at hle2
      generalize bss[k] = ps at hcv hRb hab e1 hle2 hcb
      repeat (first | refine SemW.run tblOk ?_ | refine IntG.nw (by omega) ?_ | refine IntG.nu8 (by omega) ?_ | refine IntG.nu32 (by omega) ?_ | refine IntG.nu64 (by omega) ?_ | refine IntG.wr' rfl ?_ | refine Chk.mk (by omega) ?_ | (refine BrG.id ?_; first | with_reducible refine BrG.t ?_ | with_reducible refine BrG.f ?_ | with_reducible refine BrG.notG ?_ | with_reducible refine BrG.nn ?_ | with_reducible refine BrG.ns ?_ | refine BrG.pos (by omega) ?_ | refine BrG.neg (by omega) ?_) | refine Chk.mk (ptr_ok tblOk rfl rfl) ?_)
      refine hS.ldOld (by simp) (by simpa using hcv) ?_
      repeat (first | refine SemW.run tblOk ?_ | refine IntG.nw (by omega) ?_ | refine IntG.nu8 (by omega) ?_ | refine IntG.nu32 (by omega) ?_ | refine IntG.nu64 (by omega) ?_ | refine IntG.wr' rfl ?_ | refine Chk.mk (by omega) ?_ | (refine BrG.id ?_; first | with_reducible refine BrG.t ?_ | with_reducible refine BrG.f ?_ | with_reducible refine BrG.notG ?_ | with_reducible refine BrG.nn ?_ | with_reducible refine BrG.ns ?_ | refine BrG.pos (by omega) ?_ | refine BrG.neg (by omega) ?_) | refine Chk.mk (ptr_ok tblOk rfl rfl) ?_)
      refine (LogAppend_spec (torn := false) (dead := false) hF (hS.part (L := (bl, logC f logN su.length false false) :: L2)) (ps := ps) (St.arrNew hS hab) ?_ (by omega) (by omega) (by omega)).mono ?_
      · obtain ⟨-, o, hf, ho⟩ := hW
        have : fget m logN = o := by unfold fget; rw [hf, kget_one]
        rw [this, ho]
        have := sealB_len su
        simp only; omega
      obtain ⟨e, n', dead, m', hl, hma, hmc, hcase⟩ := wl_step hW su.length ps
      rw [hl]
      rintro v w6 ⟨hv', L3, hF, hS'⟩
      have hv' : v = .int .i64 e := hv'
      subst hv'
      have hS := hS.call (L := (bl, logC f logN su.length false false) :: L2) hS'
      rcases hcase with ⟨rfl, hok2, hW', rfl, rfl⟩ | ⟨rfl, hW', rfl, rfl⟩ | ⟨rfl, hW', rfl, rfl⟩ | ⟨rfl, hok2, hpos, y, hy, hBr⟩
      · repeat (first | refine SemW.run tblOk ?_ | refine IntG.nw (by omega) ?_ | refine IntG.nu8 (by omega) ?_ | refine IntG.nu32 (by omega) ?_ | refine IntG.nu64 (by omega) ?_ | refine IntG.wr' rfl ?_ | refine Chk.mk (by omega) ?_ | (refine BrG.id ?_; first | with_reducible refine BrG.t ?_ | with_reducible refine BrG.f ?_ | with_reducible refine BrG.notG ?_ | with_reducible refine BrG.nn ?_ | with_reducible refine BrG.ns ?_ | refine BrG.pos (by omega) ?_ | refine BrG.neg (by omega) ?_) | refine Chk.mk (ptr_ok tblOk rfl rfl) ?_)
        refine St.app (sz := 1) (m := ps.length) tblOk rfl rfl rfl rfl hS hv (news := ps.map Str) (by simp) (hS.arrOld hab) (by simp [Value.oneCell']) (by show (_ + _) * 16 ≤ _; omega) (by omega) ?_
        intro va' vc' Lv' w7 hv2 hS
        have hl3 : (su ++ ps).length = su.length + ps.length := List.length_append
        rw [← hl3, ← List.map_append] at hv2
        rw [← hl3] at hS
        rw [← hl3]
        repeat (first | refine SemW.run tblOk ?_ | refine IntG.nw (by omega) ?_ | refine IntG.nu8 (by omega) ?_ | refine IntG.nu32 (by omega) ?_ | refine IntG.nu64 (by omega) ?_ | refine IntG.wr' rfl ?_ | refine Chk.mk (by omega) ?_ | (refine BrG.id ?_; first | with_reducible refine BrG.t ?_ | with_reducible refine BrG.f ?_ | with_reducible refine BrG.notG ?_ | with_reducible refine BrG.nn ?_ | with_reducible refine BrG.ns ?_ | refine BrG.pos (by omega) ?_ | refine BrG.neg (by omega) ?_) | refine Chk.mk (ptr_ok tblOk rfl rfl) ?_)
        refine ⟨(k + 1, su ++ ps, va', vc'), ⟨rfl, rfl, rfl, rfl, rfl, rfl, rfl, rfl, trivial⟩, ⟨by simp only; omega, m', L3, Lv', ?_, ?_, ?_, ?_, ?_, ?_, hF, hv2, hS⟩, by simp only; omega⟩
        · rw [sealB_app]; exact hW'
        · simp only [okLens_app, hok, hok2, Bool.and_self]
        · simp only; omega
        · simp only; omega
        · simp only [e1, sumLen_app]; omega
        · simp only [e1, List.length_append]; omega
      · repeat (first | refine SemW.run tblOk ?_ | refine IntG.nw (by omega) ?_ | refine IntG.nu8 (by omega) ?_ | refine IntG.nu32 (by omega) ?_ | refine IntG.nu64 (by omega) ?_ | refine IntG.wr' rfl ?_ | refine Chk.mk (by omega) ?_ | (refine BrG.id ?_; first | with_reducible refine BrG.t ?_ | with_reducible refine BrG.f ?_ | with_reducible refine BrG.notG ?_ | with_reducible refine BrG.nn ?_ | with_reducible refine BrG.ns ?_ | refine BrG.pos (by omega) ?_ | refine BrG.neg (by omega) ?_) | refine Chk.mk (ptr_ok tblOk rfl rfl) ?_)
        refine ⟨(k + 1, su, va, vc), ⟨rfl, rfl, rfl, rfl, rfl, rfl, rfl, rfl, trivial⟩, ⟨by simp only; omega, m', L3, Lv2, hW', hok, by simp only; omega, by simp only; omega, ?_, ?_, hF, hv, hS⟩, by simp only; omega⟩
        · simp only [e1, sumLen_app]; omega
        · simp only [e1, List.length_append]; omega
      · repeat (first | refine SemW.run tblOk ?_ | refine IntG.nw (by omega) ?_ | refine IntG.nu8 (by omega) ?_ | refine IntG.nu32 (by omega) ?_ | refine IntG.nu64 (by omega) ?_ | refine IntG.wr' rfl ?_ | refine Chk.mk (by omega) ?_ | (refine BrG.id ?_; first | with_reducible refine BrG.t ?_ | with_reducible refine BrG.f ?_ | with_reducible refine BrG.notG ?_ | with_reducible refine BrG.nn ?_ | with_reducible refine BrG.ns ?_ | refine BrG.pos (by omega) ?_ | refine BrG.neg (by omega) ?_) | refine Chk.mk (ptr_ok tblOk rfl rfl) ?_)
        refine ⟨(k + 1, su, va, vc), ⟨rfl, rfl, rfl, rfl, rfl, rfl, rfl, rfl, trivial⟩, ⟨by simp only; omega, m', L3, Lv2, hW', hok, by simp only; omega, by simp only; omega, ?_, ?_, hF, hv, hS⟩, by simp only; omega⟩
        · simp only [e1, sumLen_app]; omega
        · simp only [e1, List.length_append]; omega
      · repeat (first | refine SemW.run tblOk ?_ | refine IntG.nw (by omega) ?_ | refine IntG.nu8 (by omega) ?_ | refine IntG.nu32 (by omega) ?_ | refine IntG.nu64 (by omega) ?_ | refine IntG.wr' rfl ?_ | refine Chk.mk (by omega) ?_ | (refine BrG.id ?_; first | with_reducible refine BrG.t ?_ | with_reducible refine BrG.f ?_ | with_reducible refine BrG.notG ?_ | with_reducible refine BrG.nn ?_ | with_reducible refine BrG.ns ?_ | refine BrG.pos (by omega) ?_ | refine BrG.neg (by omega) ?_) | refine Chk.mk (ptr_ok tblOk rfl rfl) ?_)
        exact ⟨rfl, ((su, va, vc), (ps, ab, cb)), ⟨rfl, rfl, rfl, rfl, trivial⟩, m', y, L3, Lv2, _, hBr, hy, hok, hok2, .inr ⟨hpos, hcb⟩, hv, hab, by simp only; omega, by simp only; omega, hF, hS⟩
    · repeat (first | refine SemW.run tblOk ?_ | refine IntG.nw (by omega) ?_ | refine IntG.nu8 (by omega) ?_ | refine IntG.nu32 (by omega) ?_ | refine IntG.nu64 (by omega) ?_ | refine IntG.wr' rfl ?_ | refine Chk.mk (by omega) ?_ | (refine BrG.id ?_; first | with_reducible refine BrG.t ?_ | with_reducible refine BrG.f ?_ | with_reducible refine BrG.notG ?_ | with_reducible refine BrG.nn ?_ | with_reducible refine BrG.ns ?_ | refine BrG.pos (by omega) ?_ | refine BrG.neg (by omega) ?_) | refine Chk.mk (ptr_ok tblOk rfl rfl) ?_)
      exact ⟨rfl, ((su, va, vc), ([], none, 0)), ⟨rfl, rfl, rfl, rfl, trivial⟩, m, [], L2, Lv2, _, hW.broken, .inl rfl, hok, rfl, .inl rfl, hv, Arr.nil _ _ _, by simp only; omega, by simp [sumLen], hF, hS⟩
  · rintro ⟨⟨su, va, vc⟩, ⟨cu, ac, cc⟩⟩ w5 ⟨m, y, L2, Lv2, o, hBr, hy, hok, hok2, hcu, hv, hac, hs1, hs2, hF, hS⟩
    simp only at hBr hy hok hok2 hcu hv hac hs1 hs2 ⊢
    obtain ⟨oo, hmf, hsy, hll, hcr⟩ := hBr.crash
    obtain ⟨j, o', ho1, ho2⟩ := hcr [n]
    have hsl := sealB_len su
    have hsl2 := sealB_len cu
    have hyl : y.length ≤ (sealB cu).length := by rcases hy with rfl | rfl <;> simp
    have hoj : ∃ j, o'.getD [] = sealB su ++ (sealB cu).take j := by
      rcases hy with rfl | rfl
      · exact ⟨0, by rw [ho2]; simp⟩
      · exact ⟨j, ho2⟩
    obtain ⟨j2, hoj⟩ := hoj
    repeat (first | refine SemW.run tblOk ?_ | refine IntG.nw (by omega) ?_ | refine IntG.nu8 (by omega) ?_ | refine IntG.nu32 (by omega) ?_ | refine IntG.nu64 (by omega) ?_ | refine IntG.wr' rfl ?_ | refine Chk.mk (by omega) ?_ | (refine BrG.id ?_; first | with_reducible refine BrG.t ?_ | with_reducible refine BrG.f ?_ | with_reducible refine BrG.notG ?_ | with_reducible refine BrG.nn ?_ | with_reducible refine BrG.ns ?_ | refine BrG.pos (by omega) ?_ | refine BrG.neg (by omega) ?_) | refine Chk.mk (ptr_ok tblOk rfl rfl) ?_)
    refine hS.al ?_
    intro r w6 _ hS
    repeat (first | refine SemW.run tblOk ?_ | refine IntG.nw (by omega) ?_ | refine IntG.nu8 (by omega) ?_ | refine IntG.nu32 (by omega) ?_ | refine IntG.nu64 (by omega) ?_ | refine IntG.wr' rfl ?_ | refine Chk.mk (by omega) ?_ | (refine BrG.id ?_; first | with_reducible refine BrG.t ?_ | with_reducible refine BrG.f ?_ | with_reducible refine BrG.notG ?_ | with_reducible refine BrG.nn ?_ | with_reducible refine BrG.ns ?_ | refine BrG.pos (by omega) ?_ | refine BrG.neg (by omega) ?_) | refine Chk.mk (ptr_ok tblOk rfl rfl) ?_)
    refine (Crash_files hmf hF (hS.part (L := L2)) rfl (cuts := [n]) (hS.arr (b := r) ?_) (by simp) hsy (by rw [hll, List.length_append]; omega)).mono ?_
    · intro h
      refine nodup_new hS ?_
      simp only [keys, List.map_append, List.map_cons, List.mem_append, List.mem_cons]
      exact .inr (.inr h)
    rintro _ w7 ⟨g, Lg, rfl, hG, hS'⟩
    rw [ho1] at hG
    have hS := (hS.call (L := L2) hS').sub (List.sublist_cons_self _ _)
    repeat (first | refine SemW.run tblOk ?_ | refine IntG.nw (by omega) ?_ | refine IntG.nu8 (by omega) ?_ | refine IntG.nu32 (by omega) ?_ | refine IntG.nu64 (by omega) ?_ | refine IntG.wr' rfl ?_ | refine Chk.mk (by omega) ?_ | (refine BrG.id ?_; first | with_reducible refine BrG.t ?_ | with_reducible refine BrG.f ?_ | with_reducible refine BrG.notG ?_ | with_reducible refine BrG.nn ?_ | with_reducible refine BrG.ns ?_ | refine BrG.pos (by omega) ?_ | refine BrG.neg (by omega) ?_) | refine Chk.mk (ptr_ok tblOk rfl rfl) ?_)
    refine (Open_cut hG (hS.part (L := Lg)) su cu j2 hoj hok hok2 (by rw [List.length_append, List.length_take]; omega)).mono ?_
    rintro _ w8 ⟨i, bl2, a2, cap2, Lv3, hi, -, -, rfl, hv3, hS'⟩
    have hS := hS.call (L := Lg) hS'
    repeat (first | refine SemW.run tblOk ?_ | refine IntG.nw (by omega) ?_ | refine IntG.nu8 (by omega) ?_ | refine IntG.nu32 (by omega) ?_ | refine IntG.nu64 (by omega) ?_ | refine IntG.wr' rfl ?_ | refine Chk.mk (by omega) ?_ | (refine BrG.id ?_; first | with_reducible refine BrG.t ?_ | with_reducible refine BrG.f ?_ | with_reducible refine BrG.notG ?_ | with_reducible refine BrG.nn ?_ | with_reducible refine BrG.ns ?_ | refine BrG.pos (by omega) ?_ | refine BrG.neg (by omega) ?_) | refine Chk.mk (ptr_ok tblOk rfl rfl) ?_)
    have hS := hS.sub (H' := Lv2 ++ Lv3) (List.Sublist.append (List.Sublist.refl _) (List.Sublist.cons _ ((List.sublist_append_left _ _).trans (List.sublist_append_left _ _))))
    refine SemW.draw tblOk mixed (fun w' => St w [] (Lv2 ++ Lv3) w') [18, 19, 20] [0, 1, 2, 3, 4, 5, 6, 7, 8, 9, 10, 11, 12, 13, 14, 15, 16, 17, 18, 19, 20] (by kernel_rfl) hS.drew ?_
    have hZ := hS.drew
    rcases hv3.inv with ⟨rfl, hz, rfl, -, rfl⟩ | ⟨g3, l3, rfl, -, -, hcap, -⟩
    · have hsu : su = [] := List.eq_nil_of_length_eq_zero (by omega)
      have hi0 : i = 0 := by omega
      rcases hcu with hcu | ⟨hpos, hcc⟩
      · simp only [Prod.mk.injEq] at hcu
        obtain ⟨hcu0, rfl, rfl⟩ := hcu
        have hcl : cu.length = 0 := by rw [hcu0]; rfl
        repeat (first | refine SemW.run tblOk ?_ | refine IntG.nw (by omega) ?_ | refine IntG.nu8 (by omega) ?_ | refine IntG.nu32 (by omega) ?_ | refine IntG.nu64 (by omega) ?_ | refine IntG.wr' rfl ?_ | refine Chk.mk (by omega) ?_ | (refine BrG.id ?_; first | with_reducible refine BrG.t ?_ | with_reducible refine BrG.f ?_ | with_reducible refine BrG.notG ?_ | with_reducible refine BrG.nn ?_ | with_reducible refine BrG.ns ?_ | refine BrG.pos (by omega) ?_ | refine BrG.neg (by omega) ?_) | refine Chk.mk (ptr_ok tblOk rfl rfl) ?_ | refine hS.ldC rfl ?_ | refine hS.ldnC rfl ?_)
        refine Cl.mono (Same_specN (ps := su) (qs := su) (by simp) rfl (by rw [hsu]; exact Arr.nil _ _ _) (hv.arr hZ (by simp)) (by omega)) ?_
        rintro _ w9 ⟨rfl, hS'⟩
        have hZ := hZ.call0 hS'
        refine Chk.mk hZ ?_
        repeat (first | refine SemW.run tblOk ?_ | refine IntG.nw (by omega) ?_ | refine IntG.nu8 (by omega) ?_ | refine IntG.nu32 (by omega) ?_ | refine IntG.nu64 (by omega) ?_ | refine IntG.wr' rfl ?_ | refine Chk.mk (by omega) ?_ | (refine BrG.id ?_; first | with_reducible refine BrG.t ?_ | with_reducible refine BrG.f ?_ | with_reducible refine BrG.notG ?_ | with_reducible refine BrG.nn ?_ | with_reducible refine BrG.ns ?_ | refine BrG.pos (by omega) ?_ | refine BrG.neg (by omega) ?_) | refine Chk.mk (ptr_ok tblOk rfl rfl) ?_ | refine hS.ldC rfl ?_ | refine hS.ldnC rfl ?_)
        refine BrG.pos rfl ?_
        repeat (first | refine SemW.run tblOk ?_ | refine IntG.nw (by omega) ?_ | refine IntG.nu8 (by omega) ?_ | refine IntG.nu32 (by omega) ?_ | refine IntG.nu64 (by omega) ?_ | refine IntG.wr' rfl ?_ | refine Chk.mk (by omega) ?_ | (refine BrG.id ?_; first | with_reducible refine BrG.t ?_ | with_reducible refine BrG.f ?_ | with_reducible refine BrG.notG ?_ | with_reducible refine BrG.nn ?_ | with_reducible refine BrG.ns ?_ | refine BrG.pos (by omega) ?_ | refine BrG.neg (by omega) ?_) | refine Chk.mk (ptr_ok tblOk rfl rfl) ?_ | refine hS.ldC rfl ?_ | refine hS.ldnC rfl ?_)
        refine Cl.mono (Same_specN (ps := cu.take i) (qs := cu.take i) (by rw [List.length_take]; omega) (by rw [List.length_take]; omega) (by rw [hi0]; exact Arr.nil _ _ _) (by rw [hi0]; exact Arr.nil _ _ _) (by rw [List.length_take]; omega)) ?_
        rintro _ w10 ⟨rfl, hS'⟩
        have hZ := hZ.call0 hS'
        repeat (first | refine SemW.run tblOk ?_ | refine IntG.nw (by omega) ?_ | refine IntG.nu8 (by omega) ?_ | refine IntG.nu32 (by omega) ?_ | refine IntG.nu64 (by omega) ?_ | refine IntG.wr' rfl ?_ | refine Chk.mk (by omega) ?_ | (refine BrG.id ?_; first | with_reducible refine BrG.t ?_ | with_reducible refine BrG.f ?_ | with_reducible refine BrG.notG ?_ | with_reducible refine BrG.nn ?_ | with_reducible refine BrG.ns ?_ | refine BrG.pos (by omega) ?_ | refine BrG.neg (by omega) ?_) | refine Chk.mk (ptr_ok tblOk rfl rfl) ?_ | refine hS.ldC rfl ?_ | refine hS.ldnC rfl ?_)
        exact ⟨congrArg Value.bool (decide_eq_true rfl), hZ.nil⟩
      · obtain ⟨bc, oc, rfl, -, -⟩ := hac.get (j := 0) (by simp; omega)
        repeat (first | refine SemW.run tblOk ?_ | refine IntG.nw (by omega) ?_ | refine IntG.nu8 (by omega) ?_ | refine IntG.nu32 (by omega) ?_ | refine IntG.nu64 (by omega) ?_ | refine IntG.wr' rfl ?_ | refine Chk.mk (by omega) ?_ | (refine BrG.id ?_; first | with_reducible refine BrG.t ?_ | with_reducible refine BrG.f ?_ | with_reducible refine BrG.notG ?_ | with_reducible refine BrG.nn ?_ | with_reducible refine BrG.ns ?_ | refine BrG.pos (by omega) ?_ | refine BrG.neg (by omega) ?_) | refine Chk.mk (ptr_ok tblOk rfl rfl) ?_ | refine hS.ldC rfl ?_ | refine hS.ldnC rfl ?_)
        refine Cl.mono (Same_specN (ps := su) (qs := su) (by simp) rfl (by rw [hsu]; exact Arr.nil _ _ _) (hv.arr hZ (by simp)) (by omega)) ?_
        rintro _ w9 ⟨rfl, hS'⟩
        have hZ := hZ.call0 hS'
        refine Chk.mk hZ ?_
        repeat (first | refine SemW.run tblOk ?_ | refine IntG.nw (by omega) ?_ | refine IntG.nu8 (by omega) ?_ | refine IntG.nu32 (by omega) ?_ | refine IntG.nu64 (by omega) ?_ | refine IntG.wr' rfl ?_ | refine Chk.mk (by omega) ?_ | (refine BrG.id ?_; first | with_reducible refine BrG.t ?_ | with_reducible refine BrG.f ?_ | with_reducible refine BrG.notG ?_ | with_reducible refine BrG.nn ?_ | with_reducible refine BrG.ns ?_ | refine BrG.pos (by omega) ?_ | refine BrG.neg (by omega) ?_) | refine Chk.mk (ptr_ok tblOk rfl rfl) ?_ | refine hS.ldC rfl ?_ | refine hS.ldnC rfl ?_)
        refine BrG.pos rfl ?_
        repeat (first | refine SemW.run tblOk ?_ | refine IntG.nw (by omega) ?_ | refine IntG.nu8 (by omega) ?_ | refine IntG.nu32 (by omega) ?_ | refine IntG.nu64 (by omega) ?_ | refine IntG.wr' rfl ?_ | refine Chk.mk (by omega) ?_ | (refine BrG.id ?_; first | with_reducible refine BrG.t ?_ | with_reducible refine BrG.f ?_ | with_reducible refine BrG.notG ?_ | with_reducible refine BrG.nn ?_ | with_reducible refine BrG.ns ?_ | refine BrG.pos (by omega) ?_ | refine BrG.neg (by omega) ?_) | refine Chk.mk (ptr_ok tblOk rfl rfl) ?_ | refine hS.ldC rfl ?_ | refine hS.ldnC rfl ?_)
        refine Cl.mono (Same_specN (ps := cu.take i) (qs := cu.take i) (by rw [List.length_take]; omega) (by rw [List.length_take]; omega) (by rw [hi0]; exact Arr.nil _ _ _) (by rw [hi0]; exact Arr.nil _ _ _) (by rw [List.length_take]; omega)) ?_
        rintro _ w10 ⟨rfl, hS'⟩
        have hZ := hZ.call0 hS'
        repeat (first | refine SemW.run tblOk ?_ | refine IntG.nw (by omega) ?_ | refine IntG.nu8 (by omega) ?_ | refine IntG.nu32 (by omega) ?_ | refine IntG.nu64 (by omega) ?_ | refine IntG.wr' rfl ?_ | refine Chk.mk (by omega) ?_ | (refine BrG.id ?_; first | with_reducible refine BrG.t ?_ | with_reducible refine BrG.f ?_ | with_reducible refine BrG.notG ?_ | with_reducible refine BrG.nn ?_ | with_reducible refine BrG.ns ?_ | refine BrG.pos (by omega) ?_ | refine BrG.neg (by omega) ?_) | refine Chk.mk (ptr_ok tblOk rfl rfl) ?_ | refine hS.ldC rfl ?_ | refine hS.ldnC rfl ?_)
        exact ⟨congrArg Value.bool (decide_eq_true rfl), hZ.nil⟩
    · rcases hcu with hcu | ⟨hpos, hcc⟩
      · simp only [Prod.mk.injEq] at hcu
        obtain ⟨hcu0, rfl, rfl⟩ := hcu
        have hcl : cu.length = 0 := by rw [hcu0]; rfl
        have hi0 : i = 0 := by omega
        repeat (first | refine SemW.run tblOk ?_ | refine IntG.nw (by omega) ?_ | refine IntG.nu8 (by omega) ?_ | refine IntG.nu32 (by omega) ?_ | refine IntG.nu64 (by omega) ?_ | refine IntG.wr' rfl ?_ | refine Chk.mk (by omega) ?_ | (refine BrG.id ?_; first | with_reducible refine BrG.t ?_ | with_reducible refine BrG.f ?_ | with_reducible refine BrG.notG ?_ | with_reducible refine BrG.nn ?_ | with_reducible refine BrG.ns ?_ | refine BrG.pos (by omega) ?_ | refine BrG.neg (by omega) ?_) | refine Chk.mk (ptr_ok tblOk rfl rfl) ?_ | refine hS.ldC rfl ?_ | refine hS.ldnC rfl ?_)
        refine Cl.mono (Same_specN (ps := su) (qs := su) (by simp) rfl (Arr.left (hv3.arr hZ (T' := []) (by simp))) (hv.arr hZ (by simp)) (by omega)) ?_
        rintro _ w9 ⟨rfl, hS'⟩
        have hZ := hZ.call0 hS'
        refine Chk.mk hZ ?_
        repeat (first | refine SemW.run tblOk ?_ | refine IntG.nw (by omega) ?_ | refine IntG.nu8 (by omega) ?_ | refine IntG.nu32 (by omega) ?_ | refine IntG.nu64 (by omega) ?_ | refine IntG.wr' rfl ?_ | refine Chk.mk (by omega) ?_ | (refine BrG.id ?_; first | with_reducible refine BrG.t ?_ | with_reducible refine BrG.f ?_ | with_reducible refine BrG.notG ?_ | with_reducible refine BrG.nn ?_ | with_reducible refine BrG.ns ?_ | refine BrG.pos (by omega) ?_ | refine BrG.neg (by omega) ?_) | refine Chk.mk (ptr_ok tblOk rfl rfl) ?_ | refine hS.ldC rfl ?_ | refine hS.ldnC rfl ?_)
        refine BrG.pos rfl ?_
        repeat (first | refine SemW.run tblOk ?_ | refine IntG.nw (by omega) ?_ | refine IntG.nu8 (by omega) ?_ | refine IntG.nu32 (by omega) ?_ | refine IntG.nu64 (by omega) ?_ | refine IntG.wr' rfl ?_ | refine Chk.mk (by omega) ?_ | (refine BrG.id ?_; first | with_reducible refine BrG.t ?_ | with_reducible refine BrG.f ?_ | with_reducible refine BrG.notG ?_ | with_reducible refine BrG.nn ?_ | with_reducible refine BrG.ns ?_ | refine BrG.pos (by omega) ?_ | refine BrG.neg (by omega) ?_) | refine Chk.mk (ptr_ok tblOk rfl rfl) ?_ | refine hS.ldC rfl ?_ | refine hS.ldnC rfl ?_)
        refine Cl.mono (Same_specN (ps := cu.take i) (qs := cu.take i) (by rw [List.length_take]; omega) (by rw [List.length_take]; omega) (by rw [hi0]; exact Arr.nil _ _ _) (by rw [hi0]; exact Arr.nil _ _ _) (by rw [List.length_take]; omega)) ?_
        rintro _ w10 ⟨rfl, hS'⟩
        have hZ := hZ.call0 hS'
        repeat (first | refine SemW.run tblOk ?_ | refine IntG.nw (by omega) ?_ | refine IntG.nu8 (by omega) ?_ | refine IntG.nu32 (by omega) ?_ | refine IntG.nu64 (by omega) ?_ | refine IntG.wr' rfl ?_ | refine Chk.mk (by omega) ?_ | (refine BrG.id ?_; first | with_reducible refine BrG.t ?_ | with_reducible refine BrG.f ?_ | with_reducible refine BrG.notG ?_ | with_reducible refine BrG.nn ?_ | with_reducible refine BrG.ns ?_ | refine BrG.pos (by omega) ?_ | refine BrG.neg (by omega) ?_) | refine Chk.mk (ptr_ok tblOk rfl rfl) ?_ | refine hS.ldC rfl ?_ | refine hS.ldnC rfl ?_)
        exact ⟨congrArg Value.bool (decide_eq_true rfl), hZ.nil⟩
      · obtain ⟨bc, oc, rfl, -, -⟩ := hac.get (j := 0) (by simp; omega)
        repeat (first | refine SemW.run tblOk ?_ | refine IntG.nw (by omega) ?_ | refine IntG.nu8 (by omega) ?_ | refine IntG.nu32 (by omega) ?_ | refine IntG.nu64 (by omega) ?_ | refine IntG.wr' rfl ?_ | refine Chk.mk (by omega) ?_ | (refine BrG.id ?_; first | with_reducible refine BrG.t ?_ | with_reducible refine BrG.f ?_ | with_reducible refine BrG.notG ?_ | with_reducible refine BrG.nn ?_ | with_reducible refine BrG.ns ?_ | refine BrG.pos (by omega) ?_ | refine BrG.neg (by omega) ?_) | refine Chk.mk (ptr_ok tblOk rfl rfl) ?_ | refine hS.ldC rfl ?_ | refine hS.ldnC rfl ?_)
        refine Cl.mono (Same_specN (ps := su) (qs := su) (by simp) rfl (Arr.left (hv3.arr hZ (T' := []) (by simp))) (hv.arr hZ (by simp)) (by omega)) ?_
        rintro _ w9 ⟨rfl, hS'⟩
        have hZ := hZ.call0 hS'
        refine Chk.mk hZ ?_
        repeat (first | refine SemW.run tblOk ?_ | refine IntG.nw (by omega) ?_ | refine IntG.nu8 (by omega) ?_ | refine IntG.nu32 (by omega) ?_ | refine IntG.nu64 (by omega) ?_ | refine IntG.wr' rfl ?_ | refine Chk.mk (by omega) ?_ | (refine BrG.id ?_; first | with_reducible refine BrG.t ?_ | with_reducible refine BrG.f ?_ | with_reducible refine BrG.notG ?_ | with_reducible refine BrG.nn ?_ | with_reducible refine BrG.ns ?_ | refine BrG.pos (by omega) ?_ | refine BrG.neg (by omega) ?_) | refine Chk.mk (ptr_ok tblOk rfl rfl) ?_ | refine hS.ldC rfl ?_ | refine hS.ldnC rfl ?_)
        refine BrG.pos rfl ?_
        repeat (first | refine SemW.run tblOk ?_ | refine IntG.nw (by omega) ?_ | refine IntG.nu8 (by omega) ?_ | refine IntG.nu32 (by omega) ?_ | refine IntG.nu64 (by omega) ?_ | refine IntG.wr' rfl ?_ | refine Chk.mk (by omega) ?_ | (refine BrG.id ?_; first | with_reducible refine BrG.t ?_ | with_reducible refine BrG.f ?_ | with_reducible refine BrG.notG ?_ | with_reducible refine BrG.nn ?_ | with_reducible refine BrG.ns ?_ | refine BrG.pos (by omega) ?_ | refine BrG.neg (by omega) ?_) | refine Chk.mk (ptr_ok tblOk rfl rfl) ?_ | refine hS.ldC rfl ?_ | refine hS.ldnC rfl ?_)
        refine Cl.mono (Same_specN (ps := cu.take i) (qs := cu.take i) (by rw [List.length_take]; omega) (by rw [List.length_take]; omega) (Arr.right (hv3.arr hZ (T' := []) (by simp)) (by simp) (by rw [List.length_take]; omega)) (Arr.left (qs := cu.drop i) (by rw [List.take_append_drop]; exact hZ.arrOld hac)) (by rw [List.length_take]; omega)) ?_
        rintro _ w10 ⟨rfl, hS'⟩
        have hZ := hZ.call0 hS'
        repeat (first | refine SemW.run tblOk ?_ | refine IntG.nw (by omega) ?_ | refine IntG.nu8 (by omega) ?_ | refine IntG.nu32 (by omega) ?_ | refine IntG.nu64 (by omega) ?_ | refine IntG.wr' rfl ?_ | refine Chk.mk (by omega) ?_ | (refine BrG.id ?_; first | with_reducible refine BrG.t ?_ | with_reducible refine BrG.f ?_ | with_reducible refine BrG.notG ?_ | with_reducible refine BrG.nn ?_ | with_reducible refine BrG.ns ?_ | refine BrG.pos (by omega) ?_ | refine BrG.neg (by omega) ?_) | refine Chk.mk (ptr_ok tblOk rfl rfl) ?_ | refine hS.ldC rfl ?_ | refine hS.ldnC rfl ?_)
        exact ⟨congrArg Value.bool (decide_eq_true rfl), hZ.nil⟩
end Go.Proofs.Ytnmmiiffeenjbaa
