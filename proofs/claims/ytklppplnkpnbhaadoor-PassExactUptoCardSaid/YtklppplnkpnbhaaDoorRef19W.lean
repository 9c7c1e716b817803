/- The document's digest: words. -/
import Derived.Test.YtklppplnkpnbhaaDoorRef19
namespace Go.Proofs.YtklppplnkpnbhaaDoor
open Go Go.Eng Go.Proofs

theorem len_succ {α : Type} {l : List α} {n : Nat} (h : l.length = n + 1) : ∃ a l', l = a :: l' ∧ l'.length = n := by
  cases l with
  | nil => simp at h
  | cons a l => exact ⟨a, l, rfl, by simpa using h⟩
set_option maxHeartbeats 8000000 in
set_option maxRecDepth 8000 in
theorem wordsE_spec {w : World} {a : Option Addr} {cap : Nat} {b : Bytes} (ha : Arr w [] a (b.map byteV)) (hb : b.length = 64) :
    Cl Tryd.prog f_tarmacref19_words [.slice a 64 cap] w fun v w' => v = .agg ⟨(words b 48).map u32V⟩ ∧ St w [] [] w' := by
  have hS := St.start w
  obtain ⟨g, off, rfl, hgB, -⟩ := ha.get (j := 0) (by simp; omega)
  have hcell : ∀ j, j < 64 → w.cell? ⟨g, off + j, none⟩ = some (byteV (b.getD j 0)) := by
    intro j hj
    obtain ⟨g', off', h1, -, h2⟩ := ha.get (j := j) (by simp; omega)
    simp only [Option.some.injEq, Addr.mk.injEq, and_true] at h1
    obtain ⟨rfl, rfl⟩ := h1
    rw [h2]
    simp [show j < b.length by omega]
  refine en_tarmacref19_words rfl ?_
  repeat (first | refine SemW.run tblOk ?_ | refine IntG.nw (by omega) ?_ | refine IntG.nu8 (by omega) ?_ | refine IntG.nu32 (by omega) ?_ | refine IntG.nu64 (by omega) ?_ | refine IntG.wr' rfl ?_ | refine Chk.mk (by omega) ?_ | (refine BrG.id ?_; first | with_reducible refine BrG.t ?_ | with_reducible refine BrG.f ?_ | with_reducible refine BrG.notG ?_ | with_reducible refine BrG.nn ?_ | with_reducible refine BrG.ns ?_ | refine BrG.pos (by omega) ?_ | refine BrG.neg (by omega) ?_ | with_reducible refine BrG.pos rfl ?_ | refine BrG.pos (by assumption) ?_ | refine BrG.neg (by assumption) ?_) | refine Chk.mk (ptr_ok tblOk rfl rfl) ?_)
  refine hS.al ?_
  intro rb w1 _ hS
  repeat (first | refine SemW.run tblOk ?_ | refine IntG.nw (by omega) ?_ | refine IntG.nu8 (by omega) ?_ | refine IntG.nu32 (by omega) ?_ | refine IntG.nu64 (by omega) ?_ | refine IntG.wr' rfl ?_ | refine Chk.mk (by omega) ?_ | (refine BrG.id ?_; first | with_reducible refine BrG.t ?_ | with_reducible refine BrG.f ?_ | with_reducible refine BrG.notG ?_ | with_reducible refine BrG.nn ?_ | with_reducible refine BrG.ns ?_ | refine BrG.pos (by omega) ?_ | refine BrG.neg (by omega) ?_ | with_reducible refine BrG.pos rfl ?_ | refine BrG.pos (by assumption) ?_ | refine BrG.neg (by assumption) ?_) | refine Chk.mk (ptr_ok tblOk rfl rfl) ?_)
  refine hS.al ?_
  intro wb w2 _ hS
  have hS : St w [] ((wb, .cells ⟨wsC []⟩ T_64_uint32 (0, 0)) :: (rb, .cells ⟨wsC []⟩ T_64_uint32 (0, 0)) :: []) _ := hS
  repeat (first | refine SemW.run tblOk ?_ | refine IntG.nw (by omega) ?_ | refine IntG.nu8 (by omega) ?_ | refine IntG.nu32 (by omega) ?_ | refine IntG.nu64 (by omega) ?_ | refine IntG.wr' rfl ?_ | refine Chk.mk (by omega) ?_ | (refine BrG.id ?_; first | with_reducible refine BrG.t ?_ | with_reducible refine BrG.f ?_ | with_reducible refine BrG.notG ?_ | with_reducible refine BrG.nn ?_ | with_reducible refine BrG.ns ?_ | refine BrG.pos (by omega) ?_ | refine BrG.neg (by omega) ?_ | with_reducible refine BrG.pos rfl ?_ | refine BrG.pos (by assumption) ?_ | refine BrG.neg (by assumption) ?_) | refine Chk.mk (ptr_ok tblOk rfl rfl) ?_)
  refine SemW.loop (fun i : Nat => [(0, .slice (some ⟨g, off, none⟩) 64 cap), (2, ptr rb), (3, ptr wb), (4, .int .i64 i)])
    (fun i w' => i ≤ 16 ∧ St w [] ((wb, .cells ⟨wsC ((List.range i).map (wordAt b))⟩ T_64_uint32 (0, 0)) :: (rb, .cells ⟨wsC []⟩ T_64_uint32 (0, 0)) :: []) w') (fun i => 16 - i) 0
    ⟨rfl, rfl, rfl, rfl, trivial⟩ ⟨Nat.zero_le _, hS⟩ ?_
  rintro i w3 ⟨hi, hS⟩
  by_cases hil : i < 16
  · obtain ⟨pre, hpre⟩ : ∃ pre, pre = (List.range i).map (wordAt b) := ⟨_, rfl⟩
    have hpl : pre.length = i := by rw [hpre]; simp
    rw [← hpre] at hS
    repeat (first | refine SemW.run tblOk ?_ | refine IntG.nw (by omega) ?_ | refine IntG.nu8 (by omega) ?_ | refine IntG.nu32 (by omega) ?_ | refine IntG.nu64 (by omega) ?_ | refine IntG.wr' rfl ?_ | refine Chk.mk (by omega) ?_ | (refine BrG.id ?_; first | with_reducible refine BrG.t ?_ | with_reducible refine BrG.f ?_ | with_reducible refine BrG.notG ?_ | with_reducible refine BrG.nn ?_ | with_reducible refine BrG.ns ?_ | refine BrG.pos (by omega) ?_ | refine BrG.neg (by omega) ?_ | with_reducible refine BrG.pos rfl ?_ | refine BrG.pos (by assumption) ?_ | refine BrG.neg (by assumption) ?_) | refine Chk.mk (ptr_ok tblOk rfl rfl) ?_)
    refine SemW.loop (fun j : Nat => [(0, .slice (some ⟨g, off, none⟩) 64 cap), (2, ptr rb), (3, ptr wb), (4, .int .i64 i), (5, .int .i64 j)])
      (fun j w' => j ≤ 4 ∧ St w [] ((wb, .cells ⟨wsC (pre ++ [partW b i j])⟩ T_64_uint32 (0, 0)) :: (rb, .cells ⟨wsC []⟩ T_64_uint32 (0, 0)) :: []) w') (fun j => 4 - j) 0
      ⟨rfl, rfl, rfl, rfl, rfl, trivial⟩ ⟨Nat.zero_le _, by rw [show partW b i 0 = 0 from rfl, wsC_zero pre (by omega)]; exact hS⟩ ?_
    rintro j w4 ⟨hj, hS⟩
    by_cases hjl : j < 4
    · have hlt := partW_lt b i j
      have hle : 256 ^ j ≤ 256 ^ 3 := Nat.pow_le_pow_right (by omega) (by omega)
      have hnx : partW b i (j + 1) = 256 * partW b i j + (b.getD (4 * i + j) 0).toNat := rfl
      have hst := wsC_upd pre (partW b i j) (partW b i (j + 1))
      have hget := wsC_get (pre ++ [partW b i j]) i (by simp; omega)
      have hgd : (pre ++ [partW b i j]).getD i 0 = partW b i j := by
        rw [List.getD_eq_getElem?_getD, List.getElem?_append_right (by omega), hpl]; simp
      rw [hgd] at hget
      rw [hpl, hnx] at hst
      rw [← hnx] at hst
      have hlen1 : (wsC (pre ++ [partW b i j])).length = 64 := wsC_len _ (by simp; omega)
      generalize hpw : partW b i j = p at *
      have hc := (b.getD (4 * i + j) 0).toNat_lt
      repeat (first | refine SemW.run tblOk ?_ | refine IntG.nw (by omega) ?_ | refine IntG.nu8 (by omega) ?_ | refine IntG.nu32 (by omega) ?_ | refine IntG.nu64 (by omega) ?_ | refine IntG.wr' rfl ?_ | refine Chk.mk (by omega) ?_ | (refine BrG.id ?_; first | with_reducible refine BrG.t ?_ | with_reducible refine BrG.f ?_ | with_reducible refine BrG.notG ?_ | with_reducible refine BrG.nn ?_ | with_reducible refine BrG.ns ?_ | refine BrG.pos (by omega) ?_ | refine BrG.neg (by omega) ?_ | with_reducible refine BrG.pos rfl ?_ | refine BrG.pos (by assumption) ?_ | refine BrG.neg (by assumption) ?_) | refine Chk.mk (ptr_ok tblOk rfl rfl) ?_)
      refine SemW.draw tblOk mixed (fun w' => St w [] ((wb, .cells ⟨wsC (pre ++ [p])⟩ T_64_uint32 (0, 0)) :: (rb, .cells ⟨wsC []⟩ T_64_uint32 (0, 0)) :: []) w') [15] [0, 1, 2, 3, 4, 5, 6, 7, 8, 9, 10, 11, 12, 13, 14, 15] (by kernel_rfl) hS.drew ?_
      have hS := hS.drew
      repeat (first | refine SemW.run tblOk ?_ | refine IntG.nw (by omega) ?_ | refine IntG.nu8 (by omega) ?_ | refine IntG.nu32 (by omega) ?_ | refine IntG.nu64 (by omega) ?_ | refine IntG.wr' rfl ?_ | refine Chk.mk (by omega) ?_ | (refine BrG.id ?_; first | with_reducible refine BrG.t ?_ | with_reducible refine BrG.f ?_ | with_reducible refine BrG.notG ?_ | with_reducible refine BrG.nn ?_ | with_reducible refine BrG.ns ?_ | refine BrG.pos (by omega) ?_ | refine BrG.neg (by omega) ?_ | with_reducible refine BrG.pos rfl ?_ | refine BrG.pos (by assumption) ?_ | refine BrG.neg (by assumption) ?_) | refine Chk.mk (ptr_ok tblOk rfl rfl) ?_ | refine hS.ldC rfl ?_ | refine hS.ldnC rfl ?_)
      refine hS.ldC (v := u32V p) (by rw [← hget]; congr 1; omega) ?_
      repeat (first | refine SemW.run tblOk ?_ | refine IntG.nw (by omega) ?_ | refine IntG.nu8 (by omega) ?_ | refine IntG.nu32 (by omega) ?_ | refine IntG.nu64 (by omega) ?_ | refine IntG.wr' rfl ?_ | refine Chk.mk (by omega) ?_ | (refine BrG.id ?_; first | with_reducible refine BrG.t ?_ | with_reducible refine BrG.f ?_ | with_reducible refine BrG.notG ?_ | with_reducible refine BrG.nn ?_ | with_reducible refine BrG.ns ?_ | refine BrG.pos (by omega) ?_ | refine BrG.neg (by omega) ?_ | with_reducible refine BrG.pos rfl ?_ | refine BrG.pos (by assumption) ?_ | refine BrG.neg (by assumption) ?_) | refine Chk.mk (ptr_ok tblOk rfl rfl) ?_ | refine hS.ldC rfl ?_ | refine hS.ldnC rfl ?_)
      refine hS.ldOldC (by simp) (by rw [show (4 * (i : Int) + (j : Int)).toNat * 1 = 4 * i + j by omega]; exact hcell (4 * i + j) (by omega)) ?_
      repeat (first | refine SemW.run tblOk ?_ | refine IntG.nw (by omega) ?_ | refine IntG.nu8 (by omega) ?_ | refine IntG.nu32 (by omega) ?_ | refine IntG.nu64 (by omega) ?_ | refine IntG.wr' rfl ?_ | refine Chk.mk (by omega) ?_ | (refine BrG.id ?_; first | with_reducible refine BrG.t ?_ | with_reducible refine BrG.f ?_ | with_reducible refine BrG.notG ?_ | with_reducible refine BrG.nn ?_ | with_reducible refine BrG.ns ?_ | refine BrG.pos (by omega) ?_ | refine BrG.neg (by omega) ?_ | with_reducible refine BrG.pos rfl ?_ | refine BrG.pos (by assumption) ?_ | refine BrG.neg (by assumption) ?_) | refine Chk.mk (ptr_ok tblOk rfl rfl) ?_ | refine hS.ldC rfl ?_ | refine hS.ldnC rfl ?_)
      refine hS.stI rfl (by rw [hlen1]; omega) ?_
      intro w5 hS
      have hS : St w [] ((wb, .cells ⟨wsC (pre ++ [partW b i (j + 1)])⟩ T_64_uint32 (0, 0)) :: (rb, .cells ⟨wsC []⟩ T_64_uint32 (0, 0)) :: []) w5 := by
        rw [← hst]
        have e0 : 0 + ((i : Int)).toNat * 1 = i := by omega
        rw [e0] at hS
        rw [hnx]
        exact hS
      repeat (first | refine SemW.run tblOk ?_ | refine IntG.nw (by omega) ?_ | refine IntG.nu8 (by omega) ?_ | refine IntG.nu32 (by omega) ?_ | refine IntG.nu64 (by omega) ?_ | refine IntG.wr' rfl ?_ | refine Chk.mk (by omega) ?_ | (refine BrG.id ?_; first | with_reducible refine BrG.t ?_ | with_reducible refine BrG.f ?_ | with_reducible refine BrG.notG ?_ | with_reducible refine BrG.nn ?_ | with_reducible refine BrG.ns ?_ | refine BrG.pos (by omega) ?_ | refine BrG.neg (by omega) ?_ | with_reducible refine BrG.pos rfl ?_ | refine BrG.pos (by assumption) ?_ | refine BrG.neg (by assumption) ?_) | refine Chk.mk (ptr_ok tblOk rfl rfl) ?_ | refine hS.ldC rfl ?_ | refine hS.ldnC rfl ?_)
      exact ⟨j + 1, ⟨rfl, rfl, rfl, rfl, rfl, trivial⟩, ⟨by omega, hS⟩, by omega⟩
    · have hj4 : j = 4 := by omega
      subst hj4
      have hS : St w [] ((wb, .cells ⟨wsC ((List.range (i + 1)).map (wordAt b))⟩ T_64_uint32 (0, 0)) :: (rb, .cells ⟨wsC []⟩ T_64_uint32 (0, 0)) :: []) w4 := by
        rw [List.range_succ, List.map_append, List.map_cons, List.map_nil, ← hpre, ← partW_four]
        exact hS
      repeat (first | refine SemW.run tblOk ?_ | refine IntG.nw (by omega) ?_ | refine IntG.nu8 (by omega) ?_ | refine IntG.nu32 (by omega) ?_ | refine IntG.nu64 (by omega) ?_ | refine IntG.wr' rfl ?_ | refine Chk.mk (by omega) ?_ | (refine BrG.id ?_; first | with_reducible refine BrG.t ?_ | with_reducible refine BrG.f ?_ | with_reducible refine BrG.notG ?_ | with_reducible refine BrG.nn ?_ | with_reducible refine BrG.ns ?_ | refine BrG.pos (by omega) ?_ | refine BrG.neg (by omega) ?_ | with_reducible refine BrG.pos rfl ?_ | refine BrG.pos (by assumption) ?_ | refine BrG.neg (by assumption) ?_) | refine Chk.mk (ptr_ok tblOk rfl rfl) ?_)
      exact ⟨i + 1, ⟨rfl, rfl, rfl, rfl, trivial⟩, ⟨by omega, hS⟩, by omega⟩
  have hi16 : i = 16 := by omega
  subst hi16
  repeat (first | refine SemW.run tblOk ?_ | refine IntG.nw (by omega) ?_ | refine IntG.nu8 (by omega) ?_ | refine IntG.nu32 (by omega) ?_ | refine IntG.nu64 (by omega) ?_ | refine IntG.wr' rfl ?_ | refine Chk.mk (by omega) ?_ | (refine BrG.id ?_; first | with_reducible refine BrG.t ?_ | with_reducible refine BrG.f ?_ | with_reducible refine BrG.notG ?_ | with_reducible refine BrG.nn ?_ | with_reducible refine BrG.ns ?_ | refine BrG.pos (by omega) ?_ | refine BrG.neg (by omega) ?_ | with_reducible refine BrG.pos rfl ?_ | refine BrG.pos (by assumption) ?_ | refine BrG.neg (by assumption) ?_) | refine Chk.mk (ptr_ok tblOk rfl rfl) ?_)
  refine SemW.loop (fun n : Nat => [(2, ptr rb), (3, ptr wb), (6, .int .i64 (16 + n : Nat))])
    (fun n w' => n ≤ 48 ∧ St w [] ((wb, .cells ⟨wsC (words b n)⟩ T_64_uint32 (0, 0)) :: (rb, .cells ⟨wsC []⟩ T_64_uint32 (0, 0)) :: []) w') (fun n => 48 - n) 0
    ⟨rfl, rfl, rfl, trivial⟩ ⟨Nat.zero_le _, hS⟩ ?_
  rintro n w4 ⟨hn, hS⟩
  have hwl := words_len b n
  have hwt := words_lt b n
  by_cases hnl : n < 48
  · have hX := getD_lt _ hwt (n + 1)
    have hY := getD_lt _ hwt (n + 14)
    have hW16 := getD_lt _ hwt n
    have hW7 := getD_lt _ hwt (n + 9)
    have g1 := wsC_get (words b n) (n + 1) (by omega)
    have g2 := wsC_get (words b n) (n + 14) (by omega)
    have g3 := wsC_get (words b n) n (by omega)
    have g4 := wsC_get (words b n) (n + 9) (by omega)
    have hwn : wNext (words b n) (16 + n) = ((words b n).getD n 0 + (words b n).getD (n + 9) 0 + sg0 ((words b n).getD (n + 1) 0) + sg1 ((words b n).getD (n + 14) 0)) % p32 := by
      unfold wNext
      rw [show 16 + n - 16 = n by omega, show 16 + n - 7 = n + 9 by omega, show 16 + n - 15 = n + 1 by omega, show 16 + n - 2 = n + 14 by omega]
    have hst := wsC_set (words b n) (wNext (words b n) (16 + n)) (by omega)
    generalize (words b n).getD (n + 1) 0 = X at *
    generalize (words b n).getD (n + 14) 0 = Y at *
    generalize (words b n).getD n 0 = W16 at *
    generalize (words b n).getD (n + 9) 0 = W7 at *
    have h7 := rotr_lt' 7 X hX (by omega)
    have h18 := rotr_lt' 18 X hX (by omega)
    have h17 := rotr_lt' 17 Y hY (by omega)
    have h19 := rotr_lt' 19 Y hY (by omega)
    repeat (first | refine SemW.run tblOk ?_ | refine IntG.nw (by omega) ?_ | refine IntG.nu8 (by omega) ?_ | refine IntG.nu32 (by omega) ?_ | refine IntG.nu64 (by omega) ?_ | refine IntG.wr' rfl ?_ | refine Chk.mk (by omega) ?_ | (refine BrG.id ?_; first | with_reducible refine BrG.t ?_ | with_reducible refine BrG.f ?_ | with_reducible refine BrG.notG ?_ | with_reducible refine BrG.nn ?_ | with_reducible refine BrG.ns ?_ | refine BrG.pos (by omega) ?_ | refine BrG.neg (by omega) ?_ | with_reducible refine BrG.pos rfl ?_ | refine BrG.pos (by assumption) ?_ | refine BrG.neg (by assumption) ?_) | refine Chk.mk (ptr_ok tblOk rfl rfl) ?_)
    refine SemW.draw tblOk mixed (fun w' => St w [] ((wb, .cells ⟨wsC (words b n)⟩ T_64_uint32 (0, 0)) :: (rb, .cells ⟨wsC []⟩ T_64_uint32 (0, 0)) :: []) w') [] [0, 1, 2, 3, 4, 5, 6, 7, 8, 9] (by kernel_rfl) hS.drew ?_
    have hS := hS.drew
    repeat (first | refine SemW.run tblOk ?_ | refine IntG.nw (by omega) ?_ | refine IntG.nu8 (by omega) ?_ | refine IntG.nu32 (by omega) ?_ | refine IntG.nu64 (by omega) ?_ | refine IntG.wr' rfl ?_ | refine Chk.mk (by omega) ?_ | (refine BrG.id ?_; first | with_reducible refine BrG.t ?_ | with_reducible refine BrG.f ?_ | with_reducible refine BrG.notG ?_ | with_reducible refine BrG.nn ?_ | with_reducible refine BrG.ns ?_ | refine BrG.pos (by omega) ?_ | refine BrG.neg (by omega) ?_ | with_reducible refine BrG.pos rfl ?_ | refine BrG.pos (by assumption) ?_ | refine BrG.neg (by assumption) ?_) | refine Chk.mk (ptr_ok tblOk rfl rfl) ?_ | refine hS.ldC rfl ?_ | refine hS.ldnC rfl ?_)
    refine hS.ldC (v := u32V X) (by rw [← g1]; congr 1; omega) ?_
    repeat (first | refine SemW.run tblOk ?_ | refine IntG.nw (by omega) ?_ | refine IntG.nu8 (by omega) ?_ | refine IntG.nu32 (by omega) ?_ | refine IntG.nu64 (by omega) ?_ | refine IntG.wr' rfl ?_ | refine Chk.mk (by omega) ?_ | (refine BrG.id ?_; first | with_reducible refine BrG.t ?_ | with_reducible refine BrG.f ?_ | with_reducible refine BrG.notG ?_ | with_reducible refine BrG.nn ?_ | with_reducible refine BrG.ns ?_ | refine BrG.pos (by omega) ?_ | refine BrG.neg (by omega) ?_ | with_reducible refine BrG.pos rfl ?_ | refine BrG.pos (by assumption) ?_ | refine BrG.neg (by assumption) ?_) | refine Chk.mk (ptr_ok tblOk rfl rfl) ?_ | refine hS.ldC rfl ?_ | refine hS.ldnC rfl ?_)
    refine hS.ldC (v := u32V Y) (by rw [← g2]; congr 1; omega) ?_
    repeat (first | refine SemW.run tblOk ?_ | refine IntG.nw (by omega) ?_ | refine IntG.nu8 (by omega) ?_ | refine IntG.nu32 (by omega) ?_ | refine IntG.nu64 (by omega) ?_ | refine IntG.wr' rfl ?_ | refine Chk.mk (by omega) ?_ | (refine BrG.id ?_; first | with_reducible refine BrG.t ?_ | with_reducible refine BrG.f ?_ | with_reducible refine BrG.notG ?_ | with_reducible refine BrG.nn ?_ | with_reducible refine BrG.ns ?_ | refine BrG.pos (by omega) ?_ | refine BrG.neg (by omega) ?_ | with_reducible refine BrG.pos rfl ?_ | refine BrG.pos (by assumption) ?_ | refine BrG.neg (by assumption) ?_) | refine Chk.mk (ptr_ok tblOk rfl rfl) ?_ | refine hS.ldC rfl ?_ | refine hS.ldnC rfl ?_)
    refine Cl.mono (turnE_spec X 7 hX (by omega)) ?_
    rintro _ _ ⟨rfl, hS'⟩
    have hS := hS.call0 hS'
    repeat (first | refine SemW.run tblOk ?_ | refine IntG.nw (by omega) ?_ | refine IntG.nu8 (by omega) ?_ | refine IntG.nu32 (by omega) ?_ | refine IntG.nu64 (by omega) ?_ | refine IntG.wr' rfl ?_ | refine Chk.mk (by omega) ?_ | (refine BrG.id ?_; first | with_reducible refine BrG.t ?_ | with_reducible refine BrG.f ?_ | with_reducible refine BrG.notG ?_ | with_reducible refine BrG.nn ?_ | with_reducible refine BrG.ns ?_ | refine BrG.pos (by omega) ?_ | refine BrG.neg (by omega) ?_ | with_reducible refine BrG.pos rfl ?_ | refine BrG.pos (by assumption) ?_ | refine BrG.neg (by assumption) ?_) | refine Chk.mk (ptr_ok tblOk rfl rfl) ?_)
    refine Cl.mono (turnE_spec X 18 hX (by omega)) ?_
    rintro _ _ ⟨rfl, hS'⟩
    have hS := hS.call0 hS'
    repeat (first | refine SemW.run tblOk ?_ | refine IntG.nw (by omega) ?_ | refine IntG.nu8 (by omega) ?_ | refine IntG.nu32 (by omega) ?_ | refine IntG.nu64 (by omega) ?_ | refine IntG.wr' rfl ?_ | refine Chk.mk (by omega) ?_ | (refine BrG.id ?_; first | with_reducible refine BrG.t ?_ | with_reducible refine BrG.f ?_ | with_reducible refine BrG.notG ?_ | with_reducible refine BrG.nn ?_ | with_reducible refine BrG.ns ?_ | refine BrG.pos (by omega) ?_ | refine BrG.neg (by omega) ?_ | with_reducible refine BrG.pos rfl ?_ | refine BrG.pos (by assumption) ?_ | refine BrG.neg (by assumption) ?_) | refine Chk.mk (ptr_ok tblOk rfl rfl) ?_)
    refine Cl.mono (shiftE_spec X 3 hX (by omega)) ?_
    rintro _ _ ⟨rfl, hS'⟩
    have hS := hS.call0 hS'
    repeat (first | refine SemW.run tblOk ?_ | refine IntG.nw (by omega) ?_ | refine IntG.nu8 (by omega) ?_ | refine IntG.nu32 (by omega) ?_ | refine IntG.nu64 (by omega) ?_ | refine IntG.wr' rfl ?_ | refine Chk.mk (by omega) ?_ | (refine BrG.id ?_; first | with_reducible refine BrG.t ?_ | with_reducible refine BrG.f ?_ | with_reducible refine BrG.notG ?_ | with_reducible refine BrG.nn ?_ | with_reducible refine BrG.ns ?_ | refine BrG.pos (by omega) ?_ | refine BrG.neg (by omega) ?_ | with_reducible refine BrG.pos rfl ?_ | refine BrG.pos (by assumption) ?_ | refine BrG.neg (by assumption) ?_) | refine Chk.mk (ptr_ok tblOk rfl rfl) ?_)
    refine Cl.mono (turnE_spec Y 17 hY (by omega)) ?_
    rintro _ _ ⟨rfl, hS'⟩
    have hS := hS.call0 hS'
    repeat (first | refine SemW.run tblOk ?_ | refine IntG.nw (by omega) ?_ | refine IntG.nu8 (by omega) ?_ | refine IntG.nu32 (by omega) ?_ | refine IntG.nu64 (by omega) ?_ | refine IntG.wr' rfl ?_ | refine Chk.mk (by omega) ?_ | (refine BrG.id ?_; first | with_reducible refine BrG.t ?_ | with_reducible refine BrG.f ?_ | with_reducible refine BrG.notG ?_ | with_reducible refine BrG.nn ?_ | with_reducible refine BrG.ns ?_ | refine BrG.pos (by omega) ?_ | refine BrG.neg (by omega) ?_ | with_reducible refine BrG.pos rfl ?_ | refine BrG.pos (by assumption) ?_ | refine BrG.neg (by assumption) ?_) | refine Chk.mk (ptr_ok tblOk rfl rfl) ?_)
    refine Cl.mono (turnE_spec Y 19 hY (by omega)) ?_
    rintro _ _ ⟨rfl, hS'⟩
    have hS := hS.call0 hS'
    repeat (first | refine SemW.run tblOk ?_ | refine IntG.nw (by omega) ?_ | refine IntG.nu8 (by omega) ?_ | refine IntG.nu32 (by omega) ?_ | refine IntG.nu64 (by omega) ?_ | refine IntG.wr' rfl ?_ | refine Chk.mk (by omega) ?_ | (refine BrG.id ?_; first | with_reducible refine BrG.t ?_ | with_reducible refine BrG.f ?_ | with_reducible refine BrG.notG ?_ | with_reducible refine BrG.nn ?_ | with_reducible refine BrG.ns ?_ | refine BrG.pos (by omega) ?_ | refine BrG.neg (by omega) ?_ | with_reducible refine BrG.pos rfl ?_ | refine BrG.pos (by assumption) ?_ | refine BrG.neg (by assumption) ?_) | refine Chk.mk (ptr_ok tblOk rfl rfl) ?_)
    refine Cl.mono (shiftE_spec Y 10 hY (by omega)) ?_
    rintro _ _ ⟨rfl, hS'⟩
    have hS := hS.call0 hS'
    repeat (first | refine SemW.run tblOk ?_ | refine IntG.nw (by omega) ?_ | refine IntG.nu8 (by omega) ?_ | refine IntG.nu32 (by omega) ?_ | refine IntG.nu64 (by omega) ?_ | refine IntG.wr' rfl ?_ | refine Chk.mk (by omega) ?_ | (refine BrG.id ?_; first | with_reducible refine BrG.t ?_ | with_reducible refine BrG.f ?_ | with_reducible refine BrG.notG ?_ | with_reducible refine BrG.nn ?_ | with_reducible refine BrG.ns ?_ | refine BrG.pos (by omega) ?_ | refine BrG.neg (by omega) ?_ | with_reducible refine BrG.pos rfl ?_ | refine BrG.pos (by assumption) ?_ | refine BrG.neg (by assumption) ?_) | refine Chk.mk (ptr_ok tblOk rfl rfl) ?_)
    refine SemW.draw tblOk mixed (fun w' => St w [] ((wb, .cells ⟨wsC (words b n)⟩ T_64_uint32 (0, 0)) :: (rb, .cells ⟨wsC []⟩ T_64_uint32 (0, 0)) :: []) w') [15] [0, 1, 2, 3, 4, 5, 6, 7, 8, 9, 10, 11, 12, 13, 14, 15] (by kernel_rfl) hS.drew ?_
    have hS := hS.drew
    repeat (first | refine SemW.run tblOk ?_ | refine IntG.nw (by omega) ?_ | refine IntG.nu8 (by omega) ?_ | refine IntG.nu32 (by omega) ?_ | refine IntG.nu64 (by omega) ?_ | refine IntG.wr' rfl ?_ | refine Chk.mk (by omega) ?_ | (refine BrG.id ?_; first | with_reducible refine BrG.t ?_ | with_reducible refine BrG.f ?_ | with_reducible refine BrG.notG ?_ | with_reducible refine BrG.nn ?_ | with_reducible refine BrG.ns ?_ | refine BrG.pos (by omega) ?_ | refine BrG.neg (by omega) ?_ | with_reducible refine BrG.pos rfl ?_ | refine BrG.pos (by assumption) ?_ | refine BrG.neg (by assumption) ?_) | refine Chk.mk (ptr_ok tblOk rfl rfl) ?_ | refine hS.ldC rfl ?_ | refine hS.ldnC rfl ?_)
    refine hS.ldC (v := u32V W7) (by rw [← g4]; congr 1; omega) ?_
    repeat (first | refine SemW.run tblOk ?_ | refine IntG.nw (by omega) ?_ | refine IntG.nu8 (by omega) ?_ | refine IntG.nu32 (by omega) ?_ | refine IntG.nu64 (by omega) ?_ | refine IntG.wr' rfl ?_ | refine Chk.mk (by omega) ?_ | (refine BrG.id ?_; first | with_reducible refine BrG.t ?_ | with_reducible refine BrG.f ?_ | with_reducible refine BrG.notG ?_ | with_reducible refine BrG.nn ?_ | with_reducible refine BrG.ns ?_ | refine BrG.pos (by omega) ?_ | refine BrG.neg (by omega) ?_ | with_reducible refine BrG.pos rfl ?_ | refine BrG.pos (by assumption) ?_ | refine BrG.neg (by assumption) ?_) | refine Chk.mk (ptr_ok tblOk rfl rfl) ?_ | refine hS.ldC rfl ?_ | refine hS.ldnC rfl ?_)
    refine hS.ldC (v := u32V W16) (by rw [← g3]; congr 1; omega) ?_
    repeat (first | refine SemW.run tblOk ?_ | refine IntG.nw (by omega) ?_ | refine IntG.nu8 (by omega) ?_ | refine IntG.nu32 (by omega) ?_ | refine IntG.nu64 (by omega) ?_ | refine IntG.wr' rfl ?_ | refine Chk.mk (by omega) ?_ | (refine BrG.id ?_; first | with_reducible refine BrG.t ?_ | with_reducible refine BrG.f ?_ | with_reducible refine BrG.notG ?_ | with_reducible refine BrG.nn ?_ | with_reducible refine BrG.ns ?_ | refine BrG.pos (by omega) ?_ | refine BrG.neg (by omega) ?_ | with_reducible refine BrG.pos rfl ?_ | refine BrG.pos (by assumption) ?_ | refine BrG.neg (by assumption) ?_) | refine Chk.mk (ptr_ok tblOk rfl rfl) ?_ | refine hS.ldC rfl ?_ | refine hS.ldnC rfl ?_)
    refine hS.stI rfl (by rw [wsC_len _ (by omega)]; omega) ?_
    intro w6 hS
    have hs0 := xor3 (rotr 7 X) (rotr 18 X) (X / 2 ^ 3) h7 h18 (Nat.lt_of_le_of_lt (Nat.div_le_self _ _) hX)
    have hs1 := xor3 (rotr 17 Y) (rotr 19 Y) (Y / 2 ^ 10) h17 h19 (Nat.lt_of_le_of_lt (Nat.div_le_self _ _) hY)
    have hwv := wv_eq (sg1 Y) W7 (sg0 X) W16
    have hv : u32V (wNext (words b n) (16 + n)) = Value.int .u32 (IntKind.u32.wrap (IntKind.u32.wrap (IntKind.u32.wrap (xorI .u32 (xorI .u32 (rotr 17 Y : Int) (rotr 19 Y : Int)) ((Y / 2 ^ 10 : Nat) : Int) + (W7 : Int)) + xorI .u32 (xorI .u32 (rotr 7 X : Int) (rotr 18 X : Int)) ((X / 2 ^ 3 : Nat) : Int)) + (W16 : Int))) := by
      rw [hs0, hs1, hwn]
      have e : (W16 + W7 + sg0 X + sg1 Y) % p32 = (sg1 Y + W7 + sg0 X + W16) % p32 := by congr 1; omega
      rw [e]
      exact (congrArg (Value.int .u32) hwv).symm
    rw [hwl] at hst
    have hS : St w [] ((wb, .cells ⟨wsC (words b (n + 1))⟩ T_64_uint32 (0, 0)) :: (rb, .cells ⟨wsC []⟩ T_64_uint32 (0, 0)) :: []) w6 := by
      show St w [] ((wb, .cells ⟨wsC (words b n ++ [wNext (words b n) (16 + n)])⟩ T_64_uint32 (0, 0)) :: (rb, .cells ⟨wsC []⟩ T_64_uint32 (0, 0)) :: []) w6
      rw [← hst, hv]
      have e0 : 0 + (((16 + n : Nat) : Int)).toNat * 1 = 16 + n := by omega
      rw [e0] at hS
      exact hS
    repeat (first | refine SemW.run tblOk ?_ | refine IntG.nw (by omega) ?_ | refine IntG.nu8 (by omega) ?_ | refine IntG.nu32 (by omega) ?_ | refine IntG.nu64 (by omega) ?_ | refine IntG.wr' rfl ?_ | refine Chk.mk (by omega) ?_ | (refine BrG.id ?_; first | with_reducible refine BrG.t ?_ | with_reducible refine BrG.f ?_ | with_reducible refine BrG.notG ?_ | with_reducible refine BrG.nn ?_ | with_reducible refine BrG.ns ?_ | refine BrG.pos (by omega) ?_ | refine BrG.neg (by omega) ?_ | with_reducible refine BrG.pos rfl ?_ | refine BrG.pos (by assumption) ?_ | refine BrG.neg (by assumption) ?_) | refine Chk.mk (ptr_ok tblOk rfl rfl) ?_ | refine hS.ldC rfl ?_ | refine hS.ldnC rfl ?_)
    refine ⟨n + 1, ⟨rfl, rfl, ?_, trivial⟩, ⟨by omega, hS⟩, by omega⟩
    show _ = (_ : Value)
    rw [show ((16 + (n + 1) : Nat) : Int) = ((16 + n : Nat) : Int) + 1 by omega]
  have hn48 : n = 48 := by omega
  subst hn48
  generalize words b 48 = W at hS hwl ⊢
  have hWC : wsC W = W.map u32V := wsC_full W (by omega)
  rw [hWC] at hS
  clear hWC hwt
  have q0 : W.length = 64 := by omega
  clear hwl
  obtain ⟨x0, W, rfl, q1⟩ := len_succ q0
  obtain ⟨x1, W, rfl, q2⟩ := len_succ q1
  obtain ⟨x2, W, rfl, q3⟩ := len_succ q2
  obtain ⟨x3, W, rfl, q4⟩ := len_succ q3
  obtain ⟨x4, W, rfl, q5⟩ := len_succ q4
  obtain ⟨x5, W, rfl, q6⟩ := len_succ q5
  obtain ⟨x6, W, rfl, q7⟩ := len_succ q6
  obtain ⟨x7, W, rfl, q8⟩ := len_succ q7
  obtain ⟨x8, W, rfl, q9⟩ := len_succ q8
  obtain ⟨x9, W, rfl, q10⟩ := len_succ q9
  obtain ⟨x10, W, rfl, q11⟩ := len_succ q10
  obtain ⟨x11, W, rfl, q12⟩ := len_succ q11
  obtain ⟨x12, W, rfl, q13⟩ := len_succ q12
  obtain ⟨x13, W, rfl, q14⟩ := len_succ q13
  obtain ⟨x14, W, rfl, q15⟩ := len_succ q14
  obtain ⟨x15, W, rfl, q16⟩ := len_succ q15
  obtain ⟨x16, W, rfl, q17⟩ := len_succ q16
  obtain ⟨x17, W, rfl, q18⟩ := len_succ q17
  obtain ⟨x18, W, rfl, q19⟩ := len_succ q18
  obtain ⟨x19, W, rfl, q20⟩ := len_succ q19
  obtain ⟨x20, W, rfl, q21⟩ := len_succ q20
  obtain ⟨x21, W, rfl, q22⟩ := len_succ q21
  obtain ⟨x22, W, rfl, q23⟩ := len_succ q22
  obtain ⟨x23, W, rfl, q24⟩ := len_succ q23
  obtain ⟨x24, W, rfl, q25⟩ := len_succ q24
  obtain ⟨x25, W, rfl, q26⟩ := len_succ q25
  obtain ⟨x26, W, rfl, q27⟩ := len_succ q26
  obtain ⟨x27, W, rfl, q28⟩ := len_succ q27
  obtain ⟨x28, W, rfl, q29⟩ := len_succ q28
  obtain ⟨x29, W, rfl, q30⟩ := len_succ q29
  obtain ⟨x30, W, rfl, q31⟩ := len_succ q30
  obtain ⟨x31, W, rfl, q32⟩ := len_succ q31
  obtain ⟨x32, W, rfl, q33⟩ := len_succ q32
  obtain ⟨x33, W, rfl, q34⟩ := len_succ q33
  obtain ⟨x34, W, rfl, q35⟩ := len_succ q34
  obtain ⟨x35, W, rfl, q36⟩ := len_succ q35
  obtain ⟨x36, W, rfl, q37⟩ := len_succ q36
  obtain ⟨x37, W, rfl, q38⟩ := len_succ q37
  obtain ⟨x38, W, rfl, q39⟩ := len_succ q38
  obtain ⟨x39, W, rfl, q40⟩ := len_succ q39
  obtain ⟨x40, W, rfl, q41⟩ := len_succ q40
  obtain ⟨x41, W, rfl, q42⟩ := len_succ q41
  obtain ⟨x42, W, rfl, q43⟩ := len_succ q42
  obtain ⟨x43, W, rfl, q44⟩ := len_succ q43
  obtain ⟨x44, W, rfl, q45⟩ := len_succ q44
  obtain ⟨x45, W, rfl, q46⟩ := len_succ q45
  obtain ⟨x46, W, rfl, q47⟩ := len_succ q46
  obtain ⟨x47, W, rfl, q48⟩ := len_succ q47
  obtain ⟨x48, W, rfl, q49⟩ := len_succ q48
  obtain ⟨x49, W, rfl, q50⟩ := len_succ q49
  obtain ⟨x50, W, rfl, q51⟩ := len_succ q50
  obtain ⟨x51, W, rfl, q52⟩ := len_succ q51
  obtain ⟨x52, W, rfl, q53⟩ := len_succ q52
  obtain ⟨x53, W, rfl, q54⟩ := len_succ q53
  obtain ⟨x54, W, rfl, q55⟩ := len_succ q54
  obtain ⟨x55, W, rfl, q56⟩ := len_succ q55
  obtain ⟨x56, W, rfl, q57⟩ := len_succ q56
  obtain ⟨x57, W, rfl, q58⟩ := len_succ q57
  obtain ⟨x58, W, rfl, q59⟩ := len_succ q58
  obtain ⟨x59, W, rfl, q60⟩ := len_succ q59
  obtain ⟨x60, W, rfl, q61⟩ := len_succ q60
  obtain ⟨x61, W, rfl, q62⟩ := len_succ q61
  obtain ⟨x62, W, rfl, q63⟩ := len_succ q62
  obtain ⟨x63, W, rfl, q64⟩ := len_succ q63
  obtain rfl : W = [] := List.eq_nil_of_length_eq_zero q64
  repeat (first | refine SemW.run tblOk ?_ | refine IntG.nw (by omega) ?_ | refine IntG.nu8 (by omega) ?_ | refine IntG.nu32 (by omega) ?_ | refine IntG.nu64 (by omega) ?_ | refine IntG.wr' rfl ?_ | refine Chk.mk (by omega) ?_ | (refine BrG.id ?_; first | with_reducible refine BrG.t ?_ | with_reducible refine BrG.f ?_ | with_reducible refine BrG.notG ?_ | with_reducible refine BrG.nn ?_ | with_reducible refine BrG.ns ?_ | refine BrG.pos (by omega) ?_ | refine BrG.neg (by omega) ?_ | with_reducible refine BrG.pos rfl ?_ | refine BrG.pos (by assumption) ?_ | refine BrG.neg (by assumption) ?_) | refine Chk.mk (ptr_ok tblOk rfl rfl) ?_ | refine hS.ld rfl ?_ | refine hS.ldn rfl ?_ | (refine hS.st rfl rfl ?_; intro _ hS))
  exact ⟨rfl, hS.nil⟩
end Go.Proofs.YtklppplnkpnbhaaDoor
