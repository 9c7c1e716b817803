/- tarmaclaw04.VfsKeeps. -/
import Derived.Test.YtnmmiiffeenjbaaOne
namespace Go.Proofs.Ytnmmiiffeenjbaa
open Go Go.Eng Go.Proofs

theorem flat_succ (ps : List Bytes) (k : Nat) (hk : k < ps.length) : (ps.take (k + 1)).flatten = (ps.take k).flatten ++ ps[k] := by
  rw [List.take_succ_eq_append_getElem hk, List.flatten_append, List.flatten_cons, List.flatten_nil, List.append_nil]
theorem flat_len (ps : List Bytes) : ps.flatten.length = sumLen ps := by simp [sumLen, List.length_flatten]

set_option maxHeartbeats 2000000 in
set_option maxRecDepth 4000 in
theorem VfsKeeps_spec {w : World} {a0 a1 a2 : Option Addr} {c0 c1 c2 : Nat} {ps : List Bytes} {ys cs : List Int} (ha0 : Arr w [] a0 (ps.map Str)) (ha1 : Arr w [] a1 (ys.map intV)) (ha2 : Arr w [] a2 (cs.map intV))
    (hb : sumLen ps + ps.length ≤ 1048576) (hy : ys.length ≤ 1048576) (hc : cs.length ≤ 1048576) :
    Cl Try.prog f_tarmaclaw04_VfsKeeps [.slice a0 ps.length c0, .slice a1 ys.length c1, .slice a2 cs.length c2] w fun v w' => v = .bool true ∧ St w [] [] w' := by
  have hS := St.start w
  refine en_tarmaclaw04_VfsKeeps rfl ?_
  repeat (first | refine SemW.run tblOk ?_ | refine IntG.nw (by omega) ?_ | refine IntG.nu8 (by omega) ?_ | refine IntG.nu32 (by omega) ?_ | refine IntG.nu64 (by omega) ?_ | refine IntG.wr' rfl ?_ | refine Chk.mk (by omega) ?_ | (refine BrG.id ?_; first | with_reducible refine BrG.t ?_ | with_reducible refine BrG.f ?_ | with_reducible refine BrG.notG ?_ | with_reducible refine BrG.nn ?_ | with_reducible refine BrG.ns ?_ | refine BrG.pos (by omega) ?_ | refine BrG.neg (by omega) ?_) | refine Chk.mk (ptr_ok tblOk rfl rfl) ?_)
  refine lives4_spec.mono ?_
  rintro _ w1 ⟨rfl, hS'⟩
  have hS := hS.call0 hS'
  repeat (first | refine SemW.run tblOk ?_ | refine IntG.nw (by omega) ?_ | refine IntG.nu8 (by omega) ?_ | refine IntG.nu32 (by omega) ?_ | refine IntG.nu64 (by omega) ?_ | refine IntG.wr' rfl ?_ | refine Chk.mk (by omega) ?_ | (refine BrG.id ?_; first | with_reducible refine BrG.t ?_ | with_reducible refine BrG.f ?_ | with_reducible refine BrG.notG ?_ | with_reducible refine BrG.nn ?_ | with_reducible refine BrG.ns ?_ | refine BrG.pos (by omega) ?_ | refine BrG.neg (by omega) ?_) | refine Chk.mk (ptr_ok tblOk rfl rfl) ?_)
  refine New_spec.mono ?_
  rintro _ w2 ⟨f, L, rfl, hf, hF, hS'⟩
  have hS := hS.callNew hS'
  rw [List.append_nil] at hS
  have hF : FSo f (oneM logN none 0) L := hF
  repeat (first | refine SemW.run tblOk ?_ | refine IntG.nw (by omega) ?_ | refine IntG.nu8 (by omega) ?_ | refine IntG.nu32 (by omega) ?_ | refine IntG.nu64 (by omega) ?_ | refine IntG.wr' rfl ?_ | refine Chk.mk (by omega) ?_ | (refine BrG.id ?_; first | with_reducible refine BrG.t ?_ | with_reducible refine BrG.f ?_ | with_reducible refine BrG.notG ?_ | with_reducible refine BrG.nn ?_ | with_reducible refine BrG.ns ?_ | refine BrG.pos (by omega) ?_ | refine BrG.neg (by omega) ?_) | refine Chk.mk (ptr_ok tblOk rfl rfl) ?_)
  refine SemW.loop (fun (x : Nat × Nat) => [(0, .slice a0 ps.length c0), (1, .slice a1 ys.length c1), (2, .slice a2 cs.length c2), (7, ptr f), (8, Str (ps.take x.1).flatten), (9, .int .i64 x.2), (23, .slice a0 ps.length c0), (24, .int .i64 ps.length), (25, .int .i64 x.1)])
    (fun x w' => x.1 ≤ ps.length ∧ x.2 ≤ (ps.take x.1).flatten.length ∧ ∃ o k L, o.getD ([], 0) = ((ps.take x.1).flatten, x.2) ∧ o.isSome = decide (0 < x.1) ∧ k ≤ 2 * x.1 ∧ FSo f (oneM logN o k) L ∧ St w [] L w') (fun x => ps.length - x.1) (0, 0)
    ⟨rfl, rfl, rfl, rfl, rfl, rfl, rfl, rfl, rfl, trivial⟩ ⟨Nat.zero_le _, Nat.zero_le _, none, 0, L, rfl, rfl, Nat.le_refl _, hF, hS⟩ ?_
  rintro ⟨k, mk⟩ w3 ⟨hk, hmk, o, q, L, ho, hos, hq, hF, hS⟩
  simp only at hk hmk ho hos hq ⊢
  by_cases hkl : k < ps.length
  · have h1 := sumLen_take ps k hkl
    have h2 := sumLen_take_le ps (k + 1)
    have hfl := flat_len (ps.take k)
    have hfs := flat_succ ps k hkl
    obtain ⟨b', off', rfl, -, hck⟩ := ha0.get (j := k) (by simp; omega)
    simp only [List.getElem_map] at hck
    repeat (first | refine SemW.run tblOk ?_ | refine IntG.nw (by omega) ?_ | refine IntG.nu8 (by omega) ?_ | refine IntG.nu32 (by omega) ?_ | refine IntG.nu64 (by omega) ?_ | refine IntG.wr' rfl ?_ | refine Chk.mk (by omega) ?_ | (refine BrG.id ?_; first | with_reducible refine BrG.t ?_ | with_reducible refine BrG.f ?_ | with_reducible refine BrG.notG ?_ | with_reducible refine BrG.nn ?_ | with_reducible refine BrG.ns ?_ | refine BrG.pos (by omega) ?_ | refine BrG.neg (by omega) ?_) | refine Chk.mk (ptr_ok tblOk rfl rfl) ?_)
    refine hS.ldOld (by simp) (by simpa using hck) ?_
    repeat (first | refine SemW.run tblOk ?_ | refine IntG.nw (by omega) ?_ | refine IntG.nu8 (by omega) ?_ | refine IntG.nu32 (by omega) ?_ | refine IntG.nu64 (by omega) ?_ | refine IntG.wr' rfl ?_ | refine Chk.mk (by omega) ?_ | (refine BrG.id ?_; first | with_reducible refine BrG.t ?_ | with_reducible refine BrG.f ?_ | with_reducible refine BrG.notG ?_ | with_reducible refine BrG.nn ?_ | with_reducible refine BrG.ns ?_ | refine BrG.pos (by omega) ?_ | refine BrG.neg (by omega) ?_) | refine Chk.mk (ptr_ok tblOk rfl rfl) ?_)
    refine hS.al ?_
    intro r w4 _ hS
    repeat (first | refine SemW.run tblOk ?_ | refine IntG.nw (by omega) ?_ | refine IntG.nu8 (by omega) ?_ | refine IntG.nu32 (by omega) ?_ | refine IntG.nu64 (by omega) ?_ | refine IntG.wr' rfl ?_ | refine Chk.mk (by omega) ?_ | (refine BrG.id ?_; first | with_reducible refine BrG.t ?_ | with_reducible refine BrG.f ?_ | with_reducible refine BrG.notG ?_ | with_reducible refine BrG.nn ?_ | with_reducible refine BrG.ns ?_ | refine BrG.pos (by omega) ?_ | refine BrG.neg (by omega) ?_) | refine Chk.mk (ptr_ok tblOk rfl rfl) ?_)
    refine (Append_one hF (hS.part (L := L)) rfl (ps := [ps[k]]) (hS.arr (b := r) (nodup_new hS)) (by simp) (by simp) ?_ (by omega)).mono ?_
    · rw [ho]; have : sumLen [ps[k]] = ps[k].length := by simp [sumLen]
      simp only; omega
    rintro _ w5 ⟨rfl, L1, hF, hS'⟩
    have hS := (hS.call (L := L) hS').sub (List.sublist_cons_self _ _)
    rw [ho] at hF
    have hF : FSo f (oneM logN (some ((ps.take (k + 1)).flatten, mk)) (q + 1)) L1 := by
      rw [hfs]; simpa using hF
    have hfl2 : ((ps.take (k + 1)).flatten).length = (ps.take k).flatten.length + ps[k].length := by rw [hfs, List.length_append]
    have next : ∀ (mk' q' : Nat) (L' : Heap) (w' : World), mk' ≤ ((ps.take (k + 1)).flatten).length → q' ≤ 2 * (k + 1) → FSo f (oneM logN (some ((ps.take (k + 1)).flatten, mk')) q') L' → St w [] L' w' →
        (k + 1 ≤ ps.length ∧ mk' ≤ (ps.take (k + 1)).flatten.length ∧ ∃ o k' L, o.getD ([], 0) = ((ps.take (k + 1)).flatten, mk') ∧ o.isSome = decide (0 < k + 1) ∧ k' ≤ 2 * (k + 1) ∧ FSo f (oneM logN o k') L ∧ St w [] L w') :=
      fun mk' q' L' w' g1 g2 g3 g4 => ⟨by omega, g1, _, q', L', rfl, by simp, g2, g3, g4⟩
    repeat (first | refine SemW.run tblOk ?_ | refine IntG.nw (by omega) ?_ | refine IntG.nu8 (by omega) ?_ | refine IntG.nu32 (by omega) ?_ | refine IntG.nu64 (by omega) ?_ | refine IntG.wr' rfl ?_ | refine Chk.mk (by omega) ?_ | (refine BrG.id ?_; first | with_reducible refine BrG.t ?_ | with_reducible refine BrG.f ?_ | with_reducible refine BrG.notG ?_ | with_reducible refine BrG.nn ?_ | with_reducible refine BrG.ns ?_ | refine BrG.pos (by omega) ?_ | refine BrG.neg (by omega) ?_) | refine Chk.mk (ptr_ok tblOk rfl rfl) ?_)
    rw [← hfs]
    by_cases hky : k < ys.length
    · obtain ⟨b2, off2, rfl, -, hck2⟩ := ha1.get (j := k) (by simp; omega)
      simp only [List.getElem_map] at hck2
      repeat (first | refine SemW.run tblOk ?_ | refine IntG.nw (by omega) ?_ | refine IntG.nu8 (by omega) ?_ | refine IntG.nu32 (by omega) ?_ | refine IntG.nu64 (by omega) ?_ | refine IntG.wr' rfl ?_ | refine Chk.mk (by omega) ?_ | (refine BrG.id ?_; first | with_reducible refine BrG.t ?_ | with_reducible refine BrG.f ?_ | with_reducible refine BrG.notG ?_ | with_reducible refine BrG.nn ?_ | with_reducible refine BrG.ns ?_ | refine BrG.pos (by omega) ?_ | refine BrG.neg (by omega) ?_) | refine Chk.mk (ptr_ok tblOk rfl rfl) ?_)
      refine hS.ldOld (by simp) (by simpa using hck2) ?_
      repeat (first | refine SemW.run tblOk ?_ | refine IntG.nw (by omega) ?_ | refine IntG.nu8 (by omega) ?_ | refine IntG.nu32 (by omega) ?_ | refine IntG.nu64 (by omega) ?_ | refine IntG.wr' rfl ?_ | refine Chk.mk (by omega) ?_ | (refine BrG.id ?_; first | with_reducible refine BrG.t ?_ | with_reducible refine BrG.f ?_ | with_reducible refine BrG.notG ?_ | with_reducible refine BrG.nn ?_ | with_reducible refine BrG.ns ?_ | refine BrG.pos (by omega) ?_ | refine BrG.neg (by omega) ?_) | refine Chk.mk (ptr_ok tblOk rfl rfl) ?_)
      refine BrG.dec (fun h => ?_) (fun h => ?_)
      · repeat (first | refine SemW.run tblOk ?_ | refine IntG.nw (by omega) ?_ | refine IntG.nu8 (by omega) ?_ | refine IntG.nu32 (by omega) ?_ | refine IntG.nu64 (by omega) ?_ | refine IntG.wr' rfl ?_ | refine Chk.mk (by omega) ?_ | (refine BrG.id ?_; first | with_reducible refine BrG.t ?_ | with_reducible refine BrG.f ?_ | with_reducible refine BrG.notG ?_ | with_reducible refine BrG.nn ?_ | with_reducible refine BrG.ns ?_ | refine BrG.pos (by omega) ?_ | refine BrG.neg (by omega) ?_) | refine Chk.mk (ptr_ok tblOk rfl rfl) ?_)
        refine (Sync_one hF (hS.part (L := L1)) (by omega)).mono ?_
        rintro _ w6 ⟨rfl, L2, hF, hS'⟩
        have hS := hS.call (L := L1) hS'
        repeat (first | refine SemW.run tblOk ?_ | refine IntG.nw (by omega) ?_ | refine IntG.nu8 (by omega) ?_ | refine IntG.nu32 (by omega) ?_ | refine IntG.nu64 (by omega) ?_ | refine IntG.wr' rfl ?_ | refine Chk.mk (by omega) ?_ | (refine BrG.id ?_; first | with_reducible refine BrG.t ?_ | with_reducible refine BrG.f ?_ | with_reducible refine BrG.notG ?_ | with_reducible refine BrG.nn ?_ | with_reducible refine BrG.ns ?_ | refine BrG.pos (by omega) ?_ | refine BrG.neg (by omega) ?_) | refine Chk.mk (ptr_ok tblOk rfl rfl) ?_)
        exact ⟨(k + 1, ((ps.take (k + 1)).flatten).length), ⟨rfl, rfl, rfl, rfl, rfl, rfl, rfl, rfl, rfl, trivial⟩, next _ _ L2 _ (Nat.le_refl _) (by omega) hF hS, by simp only; omega⟩
      · repeat (first | refine SemW.run tblOk ?_ | refine IntG.nw (by omega) ?_ | refine IntG.nu8 (by omega) ?_ | refine IntG.nu32 (by omega) ?_ | refine IntG.nu64 (by omega) ?_ | refine IntG.wr' rfl ?_ | refine Chk.mk (by omega) ?_ | (refine BrG.id ?_; first | with_reducible refine BrG.t ?_ | with_reducible refine BrG.f ?_ | with_reducible refine BrG.notG ?_ | with_reducible refine BrG.nn ?_ | with_reducible refine BrG.ns ?_ | refine BrG.pos (by omega) ?_ | refine BrG.neg (by omega) ?_) | refine Chk.mk (ptr_ok tblOk rfl rfl) ?_)
        exact ⟨(k + 1, mk), ⟨rfl, rfl, rfl, rfl, rfl, rfl, rfl, rfl, rfl, trivial⟩, next _ _ L1 _ (by omega) (by omega) hF hS, by simp only; omega⟩
    · repeat (first | refine SemW.run tblOk ?_ | refine IntG.nw (by omega) ?_ | refine IntG.nu8 (by omega) ?_ | refine IntG.nu32 (by omega) ?_ | refine IntG.nu64 (by omega) ?_ | refine IntG.wr' rfl ?_ | refine Chk.mk (by omega) ?_ | (refine BrG.id ?_; first | with_reducible refine BrG.t ?_ | with_reducible refine BrG.f ?_ | with_reducible refine BrG.notG ?_ | with_reducible refine BrG.nn ?_ | with_reducible refine BrG.ns ?_ | refine BrG.pos (by omega) ?_ | refine BrG.neg (by omega) ?_) | refine Chk.mk (ptr_ok tblOk rfl rfl) ?_)
      exact ⟨(k + 1, mk), ⟨rfl, rfl, rfl, rfl, rfl, rfl, rfl, rfl, rfl, trivial⟩, next _ _ L1 _ (by omega) (by omega) hF hS, by simp only; omega⟩
  · have hke : k = ps.length := by omega
    subst hke
    rw [List.take_length] at ho hmk ⊢
    have hfl := flat_len ps
    generalize hT : ps.flatten = T at ho hmk hfl ⊢
    have hoT : (o.getD ([], 0)).1.length = T.length := by rw [ho]
    have hoS : (o.getD ([], 0)).2 = mk := by rw [ho]
    repeat (first | refine SemW.run tblOk ?_ | refine IntG.nw (by omega) ?_ | refine IntG.nu8 (by omega) ?_ | refine IntG.nu32 (by omega) ?_ | refine IntG.nu64 (by omega) ?_ | refine IntG.wr' rfl ?_ | refine Chk.mk (by omega) ?_ | (refine BrG.id ?_; first | with_reducible refine BrG.t ?_ | with_reducible refine BrG.f ?_ | with_reducible refine BrG.notG ?_ | with_reducible refine BrG.nn ?_ | with_reducible refine BrG.ns ?_ | refine BrG.pos (by omega) ?_ | refine BrG.neg (by omega) ?_) | refine Chk.mk (ptr_ok tblOk rfl rfl) ?_)
    refine (Crash_one hF (hS.part (L := L)) rfl (cuts := cs) (St.arrNew hS ha2) (by omega) (by omega) (by omega)).mono ?_
    rintro _ w4 ⟨g1, Lg1, rfl, hG1, hS'⟩
    have hS := hS.call (L := L) hS'
    repeat (first | refine SemW.run tblOk ?_ | refine IntG.nw (by omega) ?_ | refine IntG.nu8 (by omega) ?_ | refine IntG.nu32 (by omega) ?_ | refine IntG.nu64 (by omega) ?_ | refine IntG.wr' rfl ?_ | refine Chk.mk (by omega) ?_ | (refine BrG.id ?_; first | with_reducible refine BrG.t ?_ | with_reducible refine BrG.f ?_ | with_reducible refine BrG.notG ?_ | with_reducible refine BrG.nn ?_ | with_reducible refine BrG.ns ?_ | refine BrG.pos (by omega) ?_ | refine BrG.neg (by omega) ?_) | refine Chk.mk (ptr_ok tblOk rfl rfl) ?_)
    refine hS.al ?_
    intro r2 w5 _ hS
    repeat (first | refine SemW.run tblOk ?_ | refine IntG.nw (by omega) ?_ | refine IntG.nu8 (by omega) ?_ | refine IntG.nu32 (by omega) ?_ | refine IntG.nu64 (by omega) ?_ | refine IntG.wr' rfl ?_ | refine Chk.mk (by omega) ?_ | (refine BrG.id ?_; first | with_reducible refine BrG.t ?_ | with_reducible refine BrG.f ?_ | with_reducible refine BrG.notG ?_ | with_reducible refine BrG.nn ?_ | with_reducible refine BrG.ns ?_ | refine BrG.pos (by omega) ?_ | refine BrG.neg (by omega) ?_) | refine Chk.mk (ptr_ok tblOk rfl rfl) ?_)
    refine (Crash_one hF (hS.part (L := L)) rfl (cuts := [1152921504606846976]) (hS.arr (b := r2) (fun h => nodup_new hS (keys_right h))) (by simp) (by omega) (by omega)).mono ?_
    rintro _ w6 ⟨g2, Lg2, rfl, hG2, hS'⟩
    have hS := (hS.call (L := L) hS').sub (List.sublist_cons_self _ _)
    cases o with
    | none =>
      have hz : ps.length = 0 := by simpa using hos
      have hG1 : FSo g1 (oneM logN none 0) Lg1 := hG1
      have hG2 : FSo g2 (oneM logN none 0) Lg2 := hG2
      repeat (first | refine SemW.run tblOk ?_ | refine IntG.nw (by omega) ?_ | refine IntG.nu8 (by omega) ?_ | refine IntG.nu32 (by omega) ?_ | refine IntG.nu64 (by omega) ?_ | refine IntG.wr' rfl ?_ | refine Chk.mk (by omega) ?_ | (refine BrG.id ?_; first | with_reducible refine BrG.t ?_ | with_reducible refine BrG.f ?_ | with_reducible refine BrG.notG ?_ | with_reducible refine BrG.nn ?_ | with_reducible refine BrG.ns ?_ | refine BrG.pos (by omega) ?_ | refine BrG.neg (by omega) ?_) | refine Chk.mk (ptr_ok tblOk rfl rfl) ?_)
      refine (Read_none hG1 (hS.part (L := Lg1))).mono ?_
      rintro _ w7 ⟨rfl, hS'⟩
      have hS := hS.call (L := Lg1) hS'
      repeat (first | refine SemW.run tblOk ?_ | refine IntG.nw (by omega) ?_ | refine IntG.nu8 (by omega) ?_ | refine IntG.nu32 (by omega) ?_ | refine IntG.nu64 (by omega) ?_ | refine IntG.wr' rfl ?_ | refine Chk.mk (by omega) ?_ | (refine BrG.id ?_; first | with_reducible refine BrG.t ?_ | with_reducible refine BrG.f ?_ | with_reducible refine BrG.notG ?_ | with_reducible refine BrG.nn ?_ | with_reducible refine BrG.ns ?_ | refine BrG.pos (by omega) ?_ | refine BrG.neg (by omega) ?_) | refine Chk.mk (ptr_ok tblOk rfl rfl) ?_)
      refine (Read_none hG2 (hS.part (L := Lg2))).mono ?_
      rintro _ w8 ⟨rfl, hS'⟩
      have hS := hS.call (L := Lg2) hS'
      repeat (first | refine SemW.run tblOk ?_ | refine IntG.nw (by omega) ?_ | refine IntG.nu8 (by omega) ?_ | refine IntG.nu32 (by omega) ?_ | refine IntG.nu64 (by omega) ?_ | refine IntG.wr' rfl ?_ | refine Chk.mk (by omega) ?_ | (refine BrG.id ?_; first | with_reducible refine BrG.t ?_ | with_reducible refine BrG.f ?_ | with_reducible refine BrG.notG ?_ | with_reducible refine BrG.nn ?_ | with_reducible refine BrG.ns ?_ | refine BrG.pos (by omega) ?_ | refine BrG.neg (by omega) ?_) | refine Chk.mk (ptr_ok tblOk rfl rfl) ?_)
      exact ⟨rfl, hS.nil⟩
    | some x =>
      have hx : x = (T, mk) := ho
      subst hx
      have hpos : 0 < ps.length := by simpa using hos
      have hk1 := keepOf_le (T, mk) cs 0
      have hk2 : keepOf (T, mk) [1152921504606846976] 0 = T.length - mk := by
        unfold keepOf
        rw [if_pos (by simp)]
        simp only [List.getD_cons_zero]
        have : (1152921504606846976 : Int).toNat = 1152921504606846976 := rfl
        rw [this]
        omega
      have hG2 : FSo g2 (oneM logN (some (T, T.length)) 0) Lg2 := by
        have e : cutFile (T, mk) (keepOf (T, mk) [1152921504606846976] 0) = (T, T.length) := by
          rw [hk2]; unfold cutFile
          rw [show mk + (T.length - mk) = T.length by omega, List.take_length]
        simp only [Option.map_some, e] at hG2
        exact hG2
      simp only [Option.map_some] at hG1
      generalize keepOf (T, mk) cs 0 = j at hk1 hG1
      simp only at hk1
      have hUl : (T.take (mk + j)).length = mk + j := by simp; omega
      have hG1 : FSo g1 (oneM logN (some (T.take (mk + j), mk + j)) 0) Lg1 := hG1
      have hUT : T.take (T.take (mk + j)).length = T.take (mk + j) := by rw [hUl]
      generalize hU : T.take (mk + j) = U at hUl hG1 hUT
      repeat (first | refine SemW.run tblOk ?_ | refine IntG.nw (by omega) ?_ | refine IntG.nu8 (by omega) ?_ | refine IntG.nu32 (by omega) ?_ | refine IntG.nu64 (by omega) ?_ | refine IntG.wr' rfl ?_ | refine Chk.mk (by omega) ?_ | (refine BrG.id ?_; first | with_reducible refine BrG.t ?_ | with_reducible refine BrG.f ?_ | with_reducible refine BrG.notG ?_ | with_reducible refine BrG.nn ?_ | with_reducible refine BrG.ns ?_ | refine BrG.pos (by omega) ?_ | refine BrG.neg (by omega) ?_) | refine Chk.mk (ptr_ok tblOk rfl rfl) ?_)
      refine (Read_some hG1 (hS.part (L := Lg1))).mono ?_
      rintro _ w7 ⟨rfl, hS'⟩
      have hS := hS.call (L := Lg1) hS'
      repeat (first | refine SemW.run tblOk ?_ | refine IntG.nw (by omega) ?_ | refine IntG.nu8 (by omega) ?_ | refine IntG.nu32 (by omega) ?_ | refine IntG.nu64 (by omega) ?_ | refine IntG.wr' rfl ?_ | refine Chk.mk (by omega) ?_ | (refine BrG.id ?_; first | with_reducible refine BrG.t ?_ | with_reducible refine BrG.f ?_ | with_reducible refine BrG.notG ?_ | with_reducible refine BrG.nn ?_ | with_reducible refine BrG.ns ?_ | refine BrG.pos (by omega) ?_ | refine BrG.neg (by omega) ?_) | refine Chk.mk (ptr_ok tblOk rfl rfl) ?_)
      refine (Read_some hG2 (hS.part (L := Lg2))).mono ?_
      rintro _ w8 ⟨rfl, hS'⟩
      have hS := hS.call (L := Lg2) hS'
      repeat (first | refine SemW.run tblOk ?_ | refine IntG.nw (by omega) ?_ | refine IntG.nu8 (by omega) ?_ | refine IntG.nu32 (by omega) ?_ | refine IntG.nu64 (by omega) ?_ | refine IntG.wr' rfl ?_ | refine Chk.mk (by omega) ?_ | (refine BrG.id ?_; first | with_reducible refine BrG.t ?_ | with_reducible refine BrG.f ?_ | with_reducible refine BrG.notG ?_ | with_reducible refine BrG.nn ?_ | with_reducible refine BrG.ns ?_ | refine BrG.pos (by omega) ?_ | refine BrG.neg (by omega) ?_) | refine Chk.mk (ptr_ok tblOk rfl rfl) ?_)
      refine BrG.pos hUT ?_
      repeat (first | refine SemW.run tblOk ?_ | refine IntG.nw (by omega) ?_ | refine IntG.nu8 (by omega) ?_ | refine IntG.nu32 (by omega) ?_ | refine IntG.nu64 (by omega) ?_ | refine IntG.wr' rfl ?_ | refine Chk.mk (by omega) ?_ | (refine BrG.id ?_; first | with_reducible refine BrG.t ?_ | with_reducible refine BrG.f ?_ | with_reducible refine BrG.notG ?_ | with_reducible refine BrG.nn ?_ | with_reducible refine BrG.ns ?_ | refine BrG.pos (by omega) ?_ | refine BrG.neg (by omega) ?_) | refine Chk.mk (ptr_ok tblOk rfl rfl) ?_)
      refine BrG.pos rfl ?_
      repeat (first | refine SemW.run tblOk ?_ | refine IntG.nw (by omega) ?_ | refine IntG.nu8 (by omega) ?_ | refine IntG.nu32 (by omega) ?_ | refine IntG.nu64 (by omega) ?_ | refine IntG.wr' rfl ?_ | refine Chk.mk (by omega) ?_ | (refine BrG.id ?_; first | with_reducible refine BrG.t ?_ | with_reducible refine BrG.f ?_ | with_reducible refine BrG.notG ?_ | with_reducible refine BrG.nn ?_ | with_reducible refine BrG.ns ?_ | refine BrG.pos (by omega) ?_ | refine BrG.neg (by omega) ?_) | refine Chk.mk (ptr_ok tblOk rfl rfl) ?_)
      refine (Crash_one hG1 (hS.part (L := Lg1)) rfl (cuts := cs) (St.arrNew hS ha2) (by omega) (by simp only [Option.getD_some]; omega) (by simp only [Option.getD_some]; omega)).mono ?_
      rintro _ w9 ⟨g3, Lg3, rfl, hG3, hS'⟩
      have hS := hS.call (L := Lg1) hS'
      have hG3 : FSo g3 (oneM logN (some (U, mk + j)) 0) Lg3 := by
        have hk3 := keepOf_le (U, mk + j) cs 0
        simp only at hk3
        have e : cutFile (U, mk + j) (keepOf (U, mk + j) cs 0) = (U, mk + j) := by
          have : keepOf (U, mk + j) cs 0 = 0 := by omega
          rw [this]; unfold cutFile
          rw [show mk + j + 0 = mk + j by omega]
          rw [← hUl, List.take_length]
        simp only [Option.map_some, e] at hG3
        exact hG3
      repeat (first | refine SemW.run tblOk ?_ | refine IntG.nw (by omega) ?_ | refine IntG.nu8 (by omega) ?_ | refine IntG.nu32 (by omega) ?_ | refine IntG.nu64 (by omega) ?_ | refine IntG.wr' rfl ?_ | refine Chk.mk (by omega) ?_ | (refine BrG.id ?_; first | with_reducible refine BrG.t ?_ | with_reducible refine BrG.f ?_ | with_reducible refine BrG.notG ?_ | with_reducible refine BrG.nn ?_ | with_reducible refine BrG.ns ?_ | refine BrG.pos (by omega) ?_ | refine BrG.neg (by omega) ?_) | refine Chk.mk (ptr_ok tblOk rfl rfl) ?_)
      refine (Read_some hG3 (hS.part (L := Lg3))).mono ?_
      rintro _ w10 ⟨rfl, hS'⟩
      have hS := hS.call (L := Lg3) hS'
      repeat (first | refine SemW.run tblOk ?_ | refine IntG.nw (by omega) ?_ | refine IntG.nu8 (by omega) ?_ | refine IntG.nu32 (by omega) ?_ | refine IntG.nu64 (by omega) ?_ | refine IntG.wr' rfl ?_ | refine Chk.mk (by omega) ?_ | (refine BrG.id ?_; first | with_reducible refine BrG.t ?_ | with_reducible refine BrG.f ?_ | with_reducible refine BrG.notG ?_ | with_reducible refine BrG.nn ?_ | with_reducible refine BrG.ns ?_ | refine BrG.pos (by omega) ?_ | refine BrG.neg (by omega) ?_) | refine Chk.mk (ptr_ok tblOk rfl rfl) ?_)
      refine BrG.pos rfl ?_
      repeat (first | refine SemW.run tblOk ?_ | refine IntG.nw (by omega) ?_ | refine IntG.nu8 (by omega) ?_ | refine IntG.nu32 (by omega) ?_ | refine IntG.nu64 (by omega) ?_ | refine IntG.wr' rfl ?_ | refine Chk.mk (by omega) ?_ | (refine BrG.id ?_; first | with_reducible refine BrG.t ?_ | with_reducible refine BrG.f ?_ | with_reducible refine BrG.notG ?_ | with_reducible refine BrG.nn ?_ | with_reducible refine BrG.ns ?_ | refine BrG.pos (by omega) ?_ | refine BrG.neg (by omega) ?_) | refine Chk.mk (ptr_ok tblOk rfl rfl) ?_)
      refine (Down_one hG1 (hS.part (L := Lg1))).mono ?_
      rintro _ w11 ⟨rfl, hS'⟩
      have hS := hS.call (L := Lg1) hS'
      repeat (first | refine SemW.run tblOk ?_ | refine IntG.nw (by omega) ?_ | refine IntG.nu8 (by omega) ?_ | refine IntG.nu32 (by omega) ?_ | refine IntG.nu64 (by omega) ?_ | refine IntG.wr' rfl ?_ | refine Chk.mk (by omega) ?_ | (refine BrG.id ?_; first | with_reducible refine BrG.t ?_ | with_reducible refine BrG.f ?_ | with_reducible refine BrG.notG ?_ | with_reducible refine BrG.nn ?_ | with_reducible refine BrG.ns ?_ | refine BrG.pos (by omega) ?_ | refine BrG.neg (by omega) ?_) | refine Chk.mk (ptr_ok tblOk rfl rfl) ?_)
      exact ⟨rfl, hS.nil⟩
end Go.Proofs.Ytnmmiiffeenjbaa
