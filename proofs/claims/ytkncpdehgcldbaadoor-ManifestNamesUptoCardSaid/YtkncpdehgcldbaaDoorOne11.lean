/- tarmacref11: one, Apply. -/
import Derived.Test.YtkncpdehgcldbaaDoorPut11
namespace Go.Proofs.YtkncpdehgcldbaaDoor
open Go Go.Eng Go.Proofs Go.Srt
theorem hasF_sort (l : List FileM) (n : Int) : hasF (sortF l) n = hasF l n := hasF_perm (sortF_perm l) n
theorem sortF_put (l : List FileM) (f : FileM) : sortF (sortF l ++ [f]) = sortF (l ++ [f]) := sortF_congr ((sortF_perm l).append_right [f])
structure GI where
  fs : List FileM
  k : Nat
  a : Option Addr
  c : Nat
theorem del_once {e : EM} {fs : List FileM} (h : delOK e fs = true) (n : Int) : decide (e.del.count n = 1) = e.del.contains n := by
  unfold delOK at h
  rw [List.all_eq_true] at h
  by_cases hn : n ∈ e.del
  · have := h n hn
    rw [Bool.and_eq_true, decide_eq_true_iff] at this
    rw [decide_eq_true this.1]; simp [hn]
  · rw [List.count_eq_zero.2 hn]; simp [hn]
theorem keepF_snoc' (e : EM) (l : List FileM) (f : FileM) : keepF e (l ++ [f]) = if e.del.contains f.2 = true then keepF e l else keepF e l ++ [f] := by
  unfold keepF
  rw [List.filter_append]
  by_cases h : f.2 ∈ e.del <;> simp [h]
set_option maxHeartbeats 16000000 in
set_option maxRecDepth 4000 in
theorem one_spec {w : World} {a x y : Option Addr} {ca cx cy : Nat} {v : VM} {e : EM} (hv : VersAt w a ca v) (he : EditAt w x y cx cy e) (hlen : v.files.length + e.add.length ≤ 16777216) :
    Cl Tryd.prog f_tarmacref11_one [.agg ⟨versC a ca v⟩, .agg ⟨editC x y cx cy e⟩] w fun r w' => ApplyPost (applyM v e) r w w' := by
  have hS := St.start w
  have hel := he.len
  have her := he.rng
  have hvr := hv.rng
  show Cl _ _ [.agg ⟨[.slice a v.files.length ca, .int .i64 v.wal, .int .i64 v.next, .int .i64 v.seq]⟩, .agg ⟨[.slice x e.add.length cx, .slice y e.del.length cy, .int .i64 e.wal, .int .i64 e.next, .int .i64 e.seq]⟩] _ _
  refine en_tarmacref11_one rfl ?_
  repeat (first | refine SemW.run tblOk ?_ | refine IntG.nw (by omega) ?_ | refine IntG.nu8 (by omega) ?_ | refine IntG.nu32 (by omega) ?_ | refine IntG.nu64 (by omega) ?_ | refine IntG.wr' rfl ?_ | refine Chk.mk (by omega) ?_ | (refine BrG.id ?_; first | with_reducible refine BrG.t ?_ | with_reducible refine BrG.f ?_ | with_reducible refine BrG.notG ?_ | with_reducible refine BrG.nn ?_ | with_reducible refine BrG.ns ?_ | refine BrG.pos (by omega) ?_ | refine BrG.neg (by omega) ?_ | with_reducible refine BrG.pos rfl ?_ | refine BrG.pos (by assumption) ?_ | refine BrG.neg (by assumption) ?_ | refine BrG.pos (by decide) ?_ | refine BrG.neg (by decide) ?_) | refine Chk.mk (ptr_ok tblOk rfl rfl) ?_ | refine Chk.mk (by decide) ?_)
  refine hS.al ?_
  intro b2 w1 _ hS
  repeat (first | refine SemW.run tblOk ?_ | refine IntG.nw (by omega) ?_ | refine IntG.nu8 (by omega) ?_ | refine IntG.nu32 (by omega) ?_ | refine IntG.nu64 (by omega) ?_ | refine IntG.wr' rfl ?_ | refine Chk.mk (by omega) ?_ | (refine BrG.id ?_; first | with_reducible refine BrG.t ?_ | with_reducible refine BrG.f ?_ | with_reducible refine BrG.notG ?_ | with_reducible refine BrG.nn ?_ | with_reducible refine BrG.ns ?_ | refine BrG.pos (by omega) ?_ | refine BrG.neg (by omega) ?_ | with_reducible refine BrG.pos rfl ?_ | refine BrG.pos (by assumption) ?_ | refine BrG.neg (by assumption) ?_ | refine BrG.pos (by decide) ?_ | refine BrG.neg (by decide) ?_) | refine Chk.mk (ptr_ok tblOk rfl rfl) ?_ | refine Chk.mk (by decide) ?_)
  refine hS.al ?_
  intro b3 w2 _ hS
  repeat (first | refine SemW.run tblOk ?_ | refine IntG.nw (by omega) ?_ | refine IntG.nu8 (by omega) ?_ | refine IntG.nu32 (by omega) ?_ | refine IntG.nu64 (by omega) ?_ | refine IntG.wr' rfl ?_ | refine Chk.mk (by omega) ?_ | (refine BrG.id ?_; first | with_reducible refine BrG.t ?_ | with_reducible refine BrG.f ?_ | with_reducible refine BrG.notG ?_ | with_reducible refine BrG.nn ?_ | with_reducible refine BrG.ns ?_ | refine BrG.pos (by omega) ?_ | refine BrG.neg (by omega) ?_ | with_reducible refine BrG.pos rfl ?_ | refine BrG.pos (by assumption) ?_ | refine BrG.neg (by assumption) ?_ | refine BrG.pos (by decide) ?_ | refine BrG.neg (by decide) ?_) | refine Chk.mk (ptr_ok tblOk rfl rfl) ?_ | refine Chk.mk (by decide) ?_)
  refine hS.al ?_
  intro b4 w3 _ hS
  repeat (first | refine SemW.run tblOk ?_ | refine IntG.nw (by omega) ?_ | refine IntG.nu8 (by omega) ?_ | refine IntG.nu32 (by omega) ?_ | refine IntG.nu64 (by omega) ?_ | refine IntG.wr' rfl ?_ | refine Chk.mk (by omega) ?_ | (refine BrG.id ?_; first | with_reducible refine BrG.t ?_ | with_reducible refine BrG.f ?_ | with_reducible refine BrG.notG ?_ | with_reducible refine BrG.nn ?_ | with_reducible refine BrG.ns ?_ | refine BrG.pos (by omega) ?_ | refine BrG.neg (by omega) ?_ | with_reducible refine BrG.pos rfl ?_ | refine BrG.pos (by assumption) ?_ | refine BrG.neg (by assumption) ?_ | refine BrG.pos (by decide) ?_ | refine BrG.neg (by decide) ?_) | refine Chk.mk (ptr_ok tblOk rfl rfl) ?_ | refine Chk.mk (by decide) ?_ | refine hS.ld rfl ?_ | refine hS.ldn rfl ?_ | (refine hS.st rfl rfl ?_; intro _ hS))
  refine (right11_spec (he.keep hS)).mono ?_
  rintro _ w4 ⟨rfl, hS'⟩
  have hS := hS.call0 hS'
  by_cases hr : rightE e = true
  · rw [hr]
    by_cases hn : e.next < v.next
    · have hnone : applyM v e = none := by
        unfold applyM startOK
        rw [show decide (v.next ≤ e.next) = false from decide_eq_false (by omega)]; simp
      repeat (first | refine SemW.run tblOk ?_ | refine IntG.nw (by omega) ?_ | refine IntG.nu8 (by omega) ?_ | refine IntG.nu32 (by omega) ?_ | refine IntG.nu64 (by omega) ?_ | refine IntG.wr' rfl ?_ | refine Chk.mk (by omega) ?_ | (refine BrG.id ?_; first | with_reducible refine BrG.t ?_ | with_reducible refine BrG.f ?_ | with_reducible refine BrG.notG ?_ | with_reducible refine BrG.nn ?_ | with_reducible refine BrG.ns ?_ | refine BrG.pos (by omega) ?_ | refine BrG.neg (by omega) ?_ | with_reducible refine BrG.pos rfl ?_ | refine BrG.pos (by assumption) ?_ | refine BrG.neg (by assumption) ?_ | refine BrG.pos (by decide) ?_ | refine BrG.neg (by decide) ?_) | refine Chk.mk (ptr_ok tblOk rfl rfl) ?_ | refine Chk.mk (by decide) ?_ | refine hS.ld rfl ?_ | refine hS.ldn rfl ?_ | (refine hS.st rfl rfl ?_; intro _ hS))
      rw [hnone]; exact ⟨rfl, hS.nil⟩
    · by_cases hs : e.seq < v.seq
      · have hnone : applyM v e = none := by
          unfold applyM startOK
          rw [show decide (v.seq ≤ e.seq) = false from decide_eq_false (by omega)]; simp
        repeat (first | refine SemW.run tblOk ?_ | refine IntG.nw (by omega) ?_ | refine IntG.nu8 (by omega) ?_ | refine IntG.nu32 (by omega) ?_ | refine IntG.nu64 (by omega) ?_ | refine IntG.wr' rfl ?_ | refine Chk.mk (by omega) ?_ | (refine BrG.id ?_; first | with_reducible refine BrG.t ?_ | with_reducible refine BrG.f ?_ | with_reducible refine BrG.notG ?_ | with_reducible refine BrG.nn ?_ | with_reducible refine BrG.ns ?_ | refine BrG.pos (by omega) ?_ | refine BrG.neg (by omega) ?_ | with_reducible refine BrG.pos rfl ?_ | refine BrG.pos (by assumption) ?_ | refine BrG.neg (by assumption) ?_ | refine BrG.pos (by decide) ?_ | refine BrG.neg (by decide) ?_) | refine Chk.mk (ptr_ok tblOk rfl rfl) ?_ | refine Chk.mk (by decide) ?_ | refine hS.ld rfl ?_ | refine hS.ldn rfl ?_ | (refine hS.st rfl rfl ?_; intro _ hS))
        rw [hnone]; exact ⟨rfl, hS.nil⟩
      · have hst : startOK v e = true := by
          unfold startOK
          rw [hr, decide_eq_true (show v.next ≤ e.next by omega), decide_eq_true (show v.seq ≤ e.seq by omega)]; rfl
        repeat (first | refine SemW.run tblOk ?_ | refine IntG.nw (by omega) ?_ | refine IntG.nu8 (by omega) ?_ | refine IntG.nu32 (by omega) ?_ | refine IntG.nu64 (by omega) ?_ | refine IntG.wr' rfl ?_ | refine Chk.mk (by omega) ?_ | (refine BrG.id ?_; first | with_reducible refine BrG.t ?_ | with_reducible refine BrG.f ?_ | with_reducible refine BrG.notG ?_ | with_reducible refine BrG.nn ?_ | with_reducible refine BrG.ns ?_ | refine BrG.pos (by omega) ?_ | refine BrG.neg (by omega) ?_ | with_reducible refine BrG.pos rfl ?_ | refine BrG.pos (by assumption) ?_ | refine BrG.neg (by assumption) ?_ | refine BrG.pos (by decide) ?_ | refine BrG.neg (by decide) ?_) | refine Chk.mk (ptr_ok tblOk rfl rfl) ?_ | refine Chk.mk (by decide) ?_ | refine hS.ld rfl ?_ | refine hS.ldn rfl ?_ | (refine hS.st rfl rfl ?_; intro _ hS))
        refine SemW.loop (fun k : Nat => [(2, ptr b2), (3, ptr b3), (4, ptr b4), (32, .slice y e.del.length cy), (33, .int .i64 e.del.length), (34, .int .i64 k)])
          (fun k w' => (k ≤ e.del.length ∧ ((e.del.take k).all fun n => decide (e.del.count n = 1) && hasF v.files n) = true) ∧ St w [] [(b4, .cells ⟨[.slice none 0 0, .int .i64 0, .int .i64 0, .int .i64 0]⟩ T_api_Version (0, 0)), (b3, .cells ⟨[.slice x e.add.length cx, .slice y e.del.length cy, .int .i64 e.wal, .int .i64 e.next, .int .i64 e.seq]⟩ T_api_Edit (0, 0)), (b2, .cells ⟨[.slice a v.files.length ca, .int .i64 v.wal, .int .i64 v.next, .int .i64 v.seq]⟩ T_api_Version (0, 0))] w') (fun k => e.del.length - k) 0
          ⟨rfl, rfl, rfl, rfl, rfl, rfl, trivial⟩ ⟨⟨Nat.zero_le _, rfl⟩, hS⟩ ?_
        clear hS
        rintro k w8 ⟨⟨hk, hok⟩, hS⟩
        by_cases hkl : k < e.del.length
        · have hx : (e.del.map intV)[k]? = some (intV e.del[k]) := by rw [List.getElem?_map, List.getElem?_eq_getElem hkl]; rfl
          obtain ⟨g, off, rfl, -, -⟩ := he.del.get (j := k) (by rw [List.length_map]; exact hkl)
          have hsucc := List.take_succ_eq_append_getElem hkl
          have hmem : e.del[k] ∈ e.del := List.getElem_mem hkl
          generalize e.del[k] = n at hx hsucc hmem
          repeat (first | refine SemW.run tblOk ?_ | refine IntG.nw (by omega) ?_ | refine IntG.nu8 (by omega) ?_ | refine IntG.nu32 (by omega) ?_ | refine IntG.nu64 (by omega) ?_ | refine IntG.wr' rfl ?_ | refine Chk.mk (by omega) ?_ | (refine BrG.id ?_; first | with_reducible refine BrG.t ?_ | with_reducible refine BrG.f ?_ | with_reducible refine BrG.notG ?_ | with_reducible refine BrG.nn ?_ | with_reducible refine BrG.ns ?_ | refine BrG.pos (by omega) ?_ | refine BrG.neg (by omega) ?_ | with_reducible refine BrG.pos rfl ?_ | refine BrG.pos (by assumption) ?_ | refine BrG.neg (by assumption) ?_ | refine BrG.pos (by decide) ?_ | refine BrG.neg (by decide) ?_) | refine Chk.mk (ptr_ok tblOk rfl rfl) ?_ | refine Chk.mk (by decide) ?_)
          refine Arr.ldc hS he.del hx (by simp) ?_
          unfold intV
          repeat (first | refine SemW.run tblOk ?_ | refine IntG.nw (by omega) ?_ | refine IntG.nu8 (by omega) ?_ | refine IntG.nu32 (by omega) ?_ | refine IntG.nu64 (by omega) ?_ | refine IntG.wr' rfl ?_ | refine Chk.mk (by omega) ?_ | (refine BrG.id ?_; first | with_reducible refine BrG.t ?_ | with_reducible refine BrG.f ?_ | with_reducible refine BrG.notG ?_ | with_reducible refine BrG.nn ?_ | with_reducible refine BrG.ns ?_ | refine BrG.pos (by omega) ?_ | refine BrG.neg (by omega) ?_ | with_reducible refine BrG.pos rfl ?_ | refine BrG.pos (by assumption) ?_ | refine BrG.neg (by assumption) ?_ | refine BrG.pos (by decide) ?_ | refine BrG.neg (by decide) ?_) | refine Chk.mk (ptr_ok tblOk rfl rfl) ?_ | refine Chk.mk (by decide) ?_ | refine hS.ld rfl ?_ | refine hS.ldn rfl ?_ | (refine hS.st rfl rfl ?_; intro _ hS))
          refine (once_spec (hS.arrOld he.del) (by omega) n).mono ?_
          rintro _ w9 ⟨rfl, hS'⟩
          have hS := hS.call0 hS'
          by_cases h1 : e.del.count n = 1
          · rw [decide_eq_true h1]
            repeat (first | refine SemW.run tblOk ?_ | refine IntG.nw (by omega) ?_ | refine IntG.nu8 (by omega) ?_ | refine IntG.nu32 (by omega) ?_ | refine IntG.nu64 (by omega) ?_ | refine IntG.wr' rfl ?_ | refine Chk.mk (by omega) ?_ | (refine BrG.id ?_; first | with_reducible refine BrG.t ?_ | with_reducible refine BrG.f ?_ | with_reducible refine BrG.notG ?_ | with_reducible refine BrG.nn ?_ | with_reducible refine BrG.ns ?_ | refine BrG.pos (by omega) ?_ | refine BrG.neg (by omega) ?_ | with_reducible refine BrG.pos rfl ?_ | refine BrG.pos (by assumption) ?_ | refine BrG.neg (by assumption) ?_ | refine BrG.pos (by decide) ?_ | refine BrG.neg (by decide) ?_) | refine Chk.mk (ptr_ok tblOk rfl rfl) ?_ | refine Chk.mk (by decide) ?_ | refine hS.ld rfl ?_ | refine hS.ldn rfl ?_ | (refine hS.st rfl rfl ?_; intro _ hS))
            refine (has_spec (hv.files.keep hS) (by omega) n).mono ?_
            rintro _ w9 ⟨rfl, hS'⟩
            have hS := hS.call0 hS'
            by_cases h2 : hasF v.files n = true
            · rw [h2]
              repeat (first | refine SemW.run tblOk ?_ | refine IntG.nw (by omega) ?_ | refine IntG.nu8 (by omega) ?_ | refine IntG.nu32 (by omega) ?_ | refine IntG.nu64 (by omega) ?_ | refine IntG.wr' rfl ?_ | refine Chk.mk (by omega) ?_ | (refine BrG.id ?_; first | with_reducible refine BrG.t ?_ | with_reducible refine BrG.f ?_ | with_reducible refine BrG.notG ?_ | with_reducible refine BrG.nn ?_ | with_reducible refine BrG.ns ?_ | refine BrG.pos (by omega) ?_ | refine BrG.neg (by omega) ?_ | with_reducible refine BrG.pos rfl ?_ | refine BrG.pos (by assumption) ?_ | refine BrG.neg (by assumption) ?_ | refine BrG.pos (by decide) ?_ | refine BrG.neg (by decide) ?_) | refine Chk.mk (ptr_ok tblOk rfl rfl) ?_ | refine Chk.mk (by decide) ?_ | refine hS.ld rfl ?_ | refine hS.ldn rfl ?_ | (refine hS.st rfl rfl ?_; intro _ hS))
              refine ⟨k + 1, ⟨rfl, rfl, rfl, rfl, rfl, rfl, trivial⟩, ⟨⟨by omega, ?_⟩, hS⟩, by omega⟩
              rw [hsucc, List.all_append, hok]
              simp [h1, h2]
            · have h2' : hasF v.files n = false := by simpa using h2
              have hnone : applyM v e = none := by
                unfold applyM
                rw [delOK_has hmem h2']; simp
              rw [h2']
              repeat (first | refine SemW.run tblOk ?_ | refine IntG.nw (by omega) ?_ | refine IntG.nu8 (by omega) ?_ | refine IntG.nu32 (by omega) ?_ | refine IntG.nu64 (by omega) ?_ | refine IntG.wr' rfl ?_ | refine Chk.mk (by omega) ?_ | (refine BrG.id ?_; first | with_reducible refine BrG.t ?_ | with_reducible refine BrG.f ?_ | with_reducible refine BrG.notG ?_ | with_reducible refine BrG.nn ?_ | with_reducible refine BrG.ns ?_ | refine BrG.pos (by omega) ?_ | refine BrG.neg (by omega) ?_ | with_reducible refine BrG.pos rfl ?_ | refine BrG.pos (by assumption) ?_ | refine BrG.neg (by assumption) ?_ | refine BrG.pos (by decide) ?_ | refine BrG.neg (by decide) ?_) | refine Chk.mk (ptr_ok tblOk rfl rfl) ?_ | refine Chk.mk (by decide) ?_ | refine hS.ld rfl ?_ | refine hS.ldn rfl ?_ | (refine hS.st rfl rfl ?_; intro _ hS))
              rw [hnone]; exact ⟨rfl, hS.nil⟩
          · rw [decide_eq_false h1]
            have hnone : applyM v e = none := by
              have : delOK e v.files = false := by
                unfold delOK
                rw [List.all_eq_false]
                exact ⟨n, hmem, by simp [h1]⟩
              unfold applyM
              rw [this]; simp
            repeat (first | refine SemW.run tblOk ?_ | refine IntG.nw (by omega) ?_ | refine IntG.nu8 (by omega) ?_ | refine IntG.nu32 (by omega) ?_ | refine IntG.nu64 (by omega) ?_ | refine IntG.wr' rfl ?_ | refine Chk.mk (by omega) ?_ | (refine BrG.id ?_; first | with_reducible refine BrG.t ?_ | with_reducible refine BrG.f ?_ | with_reducible refine BrG.notG ?_ | with_reducible refine BrG.nn ?_ | with_reducible refine BrG.ns ?_ | refine BrG.pos (by omega) ?_ | refine BrG.neg (by omega) ?_ | with_reducible refine BrG.pos rfl ?_ | refine BrG.pos (by assumption) ?_ | refine BrG.neg (by assumption) ?_ | refine BrG.pos (by decide) ?_ | refine BrG.neg (by decide) ?_) | refine Chk.mk (ptr_ok tblOk rfl rfl) ?_ | refine Chk.mk (by decide) ?_ | refine hS.ld rfl ?_ | refine hS.ldn rfl ?_ | (refine hS.st rfl rfl ?_; intro _ hS))
            rw [hnone]; exact ⟨rfl, hS.nil⟩
        · have hke : k = e.del.length := by omega
          rw [hke, List.take_length] at hok
          have hdel : delOK e v.files = true := hok
          repeat (first | refine SemW.run tblOk ?_ | refine IntG.nw (by omega) ?_ | refine IntG.nu8 (by omega) ?_ | refine IntG.nu32 (by omega) ?_ | refine IntG.nu64 (by omega) ?_ | refine IntG.wr' rfl ?_ | refine Chk.mk (by omega) ?_ | (refine BrG.id ?_; first | with_reducible refine BrG.t ?_ | with_reducible refine BrG.f ?_ | with_reducible refine BrG.notG ?_ | with_reducible refine BrG.nn ?_ | with_reducible refine BrG.ns ?_ | refine BrG.pos (by omega) ?_ | refine BrG.neg (by omega) ?_ | with_reducible refine BrG.pos rfl ?_ | refine BrG.pos (by assumption) ?_ | refine BrG.neg (by assumption) ?_ | refine BrG.pos (by decide) ?_ | refine BrG.neg (by decide) ?_) | refine Chk.mk (ptr_ok tblOk rfl rfl) ?_ | refine Chk.mk (by decide) ?_ | refine hS.ld rfl ?_ | refine hS.ldn rfl ?_ | (refine hS.st rfl rfl ?_; intro _ hS))
          clear hok hke hkl hk
          have hS : St w [] ([] ++ [(b4, .cells ⟨[.slice none 0 0, .int .i64 0, .int .i64 0, .int .i64 0]⟩ T_api_Version (0, 0)), (b3, .cells ⟨[.slice x e.add.length cx, .slice y e.del.length cy, .int .i64 e.wal, .int .i64 e.next, .int .i64 e.seq]⟩ T_api_Edit (0, 0)), (b2, .cells ⟨[.slice a v.files.length ca, .int .i64 v.wal, .int .i64 v.next, .int .i64 v.seq]⟩ T_api_Version (0, 0))]) w8 := hS
          refine SemW.loop (fun z : GI => [(2, ptr b2), (3, ptr b3), (4, ptr b4), (8, .slice z.a (sortF z.fs).length z.c), (53, .slice a v.files.length ca), (54, .int .i64 v.files.length), (55, .int .i64 z.k)])
            (fun z w' => (z.k ≤ v.files.length ∧ z.fs = keepF e (v.files.take z.k)) ∧ ∃ L, Vec T_api_File 2 z.a (sortF z.fs).length z.c ((sortF z.fs).flatMap fileC) L ∧ St w [] (L ++ [(b4, .cells ⟨[.slice none 0 0, .int .i64 0, .int .i64 0, .int .i64 0]⟩ T_api_Version (0, 0)), (b3, .cells ⟨[.slice x e.add.length cx, .slice y e.del.length cy, .int .i64 e.wal, .int .i64 e.next, .int .i64 e.seq]⟩ T_api_Edit (0, 0)), (b2, .cells ⟨[.slice a v.files.length ca, .int .i64 v.wal, .int .i64 v.next, .int .i64 v.seq]⟩ T_api_Version (0, 0))]) w') (fun z => v.files.length - z.k) ⟨[], 0, none, 0⟩
            ⟨rfl, rfl, rfl, rfl, rfl, rfl, rfl, trivial⟩ ⟨⟨Nat.zero_le _, rfl⟩, [], Vec.nil, hS⟩ ?_
          clear hS
          rintro ⟨fs, k, a1, c1⟩ w9 ⟨⟨hk, hfs⟩, L, hvec, hS⟩
          simp only at hk hfs hvec hS ⊢
          have hfl : fs.length ≤ v.files.length := by
            rw [hfs]; exact Nat.le_trans (List.length_filter_le _ _) (by rw [List.length_take]; omega)
          by_cases hkl : k < v.files.length
          · obtain ⟨g, off, rfl⟩ := hv.files.pos (by omega)
            have hat := hv.files.at hkl
            have hsucc := List.take_succ_eq_append_getElem hkl
            generalize v.files[k] = f at hat hsucc
            have hkf := keepF_snoc' e (v.files.take k) f
            rw [← hsucc, ← hfs] at hkf
            repeat (first | refine SemW.run tblOk ?_ | refine IntG.nw (by omega) ?_ | refine IntG.nu8 (by omega) ?_ | refine IntG.nu32 (by omega) ?_ | refine IntG.nu64 (by omega) ?_ | refine IntG.wr' rfl ?_ | refine Chk.mk (by omega) ?_ | (refine BrG.id ?_; first | with_reducible refine BrG.t ?_ | with_reducible refine BrG.f ?_ | with_reducible refine BrG.notG ?_ | with_reducible refine BrG.nn ?_ | with_reducible refine BrG.ns ?_ | refine BrG.pos (by omega) ?_ | refine BrG.neg (by omega) ?_ | with_reducible refine BrG.pos rfl ?_ | refine BrG.pos (by assumption) ?_ | refine BrG.neg (by assumption) ?_ | refine BrG.pos (by decide) ?_ | refine BrG.neg (by decide) ?_) | refine Chk.mk (ptr_ok tblOk rfl rfl) ?_ | refine Chk.mk (by decide) ?_)
            refine Arr.ldn hS hv.files.arr rfl (k := k * 2) hat rfl ?_
            unfold fileC
            repeat (first | refine SemW.run tblOk ?_ | refine IntG.nw (by omega) ?_ | refine IntG.nu8 (by omega) ?_ | refine IntG.nu32 (by omega) ?_ | refine IntG.nu64 (by omega) ?_ | refine IntG.wr' rfl ?_ | refine Chk.mk (by omega) ?_ | (refine BrG.id ?_; first | with_reducible refine BrG.t ?_ | with_reducible refine BrG.f ?_ | with_reducible refine BrG.notG ?_ | with_reducible refine BrG.nn ?_ | with_reducible refine BrG.ns ?_ | refine BrG.pos (by omega) ?_ | refine BrG.neg (by omega) ?_ | with_reducible refine BrG.pos rfl ?_ | refine BrG.pos (by assumption) ?_ | refine BrG.neg (by assumption) ?_ | refine BrG.pos (by decide) ?_ | refine BrG.neg (by decide) ?_) | refine Chk.mk (ptr_ok tblOk rfl rfl) ?_ | refine Chk.mk (by decide) ?_)
            refine hS.al ?_
            intro b10 w10 _ hS
            repeat (first | refine SemW.run tblOk ?_ | refine IntG.nw (by omega) ?_ | refine IntG.nu8 (by omega) ?_ | refine IntG.nu32 (by omega) ?_ | refine IntG.nu64 (by omega) ?_ | refine IntG.wr' rfl ?_ | refine Chk.mk (by omega) ?_ | (refine BrG.id ?_; first | with_reducible refine BrG.t ?_ | with_reducible refine BrG.f ?_ | with_reducible refine BrG.notG ?_ | with_reducible refine BrG.nn ?_ | with_reducible refine BrG.ns ?_ | refine BrG.pos (by omega) ?_ | refine BrG.neg (by omega) ?_ | with_reducible refine BrG.pos rfl ?_ | refine BrG.pos (by assumption) ?_ | refine BrG.neg (by assumption) ?_ | refine BrG.pos (by decide) ?_ | refine BrG.neg (by decide) ?_) | refine Chk.mk (ptr_ok tblOk rfl rfl) ?_ | refine Chk.mk (by decide) ?_ | refine hS.ld rfl ?_ | refine hS.ldn rfl ?_ | (refine hS.st rfl rfl ?_; intro _ hS))
            refine (once_spec (hS.arrOld he.del) (by omega) f.2).mono ?_
            rintro _ w9 ⟨rfl, hS'⟩
            have hS := hS.call0 hS'
            rw [del_once hdel]
            cases hz : e.del.contains f.2 with
            | true =>
              rw [if_pos hz] at hkf
              repeat (first | refine SemW.run tblOk ?_ | refine IntG.nw (by omega) ?_ | refine IntG.nu8 (by omega) ?_ | refine IntG.nu32 (by omega) ?_ | refine IntG.nu64 (by omega) ?_ | refine IntG.wr' rfl ?_ | refine Chk.mk (by omega) ?_ | (refine BrG.id ?_; first | with_reducible refine BrG.t ?_ | with_reducible refine BrG.f ?_ | with_reducible refine BrG.notG ?_ | with_reducible refine BrG.nn ?_ | with_reducible refine BrG.ns ?_ | refine BrG.pos (by omega) ?_ | refine BrG.neg (by omega) ?_ | with_reducible refine BrG.pos rfl ?_ | refine BrG.pos (by assumption) ?_ | refine BrG.neg (by assumption) ?_ | refine BrG.pos (by decide) ?_ | refine BrG.neg (by decide) ?_) | refine Chk.mk (ptr_ok tblOk rfl rfl) ?_ | refine Chk.mk (by decide) ?_ | refine hS.ld rfl ?_ | refine hS.ldn rfl ?_ | (refine hS.st rfl rfl ?_; intro _ hS))
              exact ⟨⟨fs, k + 1, a1, c1⟩, ⟨rfl, rfl, rfl, rfl, rfl, rfl, rfl, trivial⟩, ⟨⟨by simp only; omega, hkf.symm⟩, L, hvec, St.tl1 hS⟩, by simp only; omega⟩
            | false =>
              rw [if_neg (by rw [hz]; nofun)] at hkf
              repeat (first | refine SemW.run tblOk ?_ | refine IntG.nw (by omega) ?_ | refine IntG.nu8 (by omega) ?_ | refine IntG.nu32 (by omega) ?_ | refine IntG.nu64 (by omega) ?_ | refine IntG.wr' rfl ?_ | refine Chk.mk (by omega) ?_ | (refine BrG.id ?_; first | with_reducible refine BrG.t ?_ | with_reducible refine BrG.f ?_ | with_reducible refine BrG.notG ?_ | with_reducible refine BrG.nn ?_ | with_reducible refine BrG.ns ?_ | refine BrG.pos (by omega) ?_ | refine BrG.neg (by omega) ?_ | with_reducible refine BrG.pos rfl ?_ | refine BrG.pos (by assumption) ?_ | refine BrG.neg (by assumption) ?_ | refine BrG.pos (by decide) ?_ | refine BrG.neg (by decide) ?_) | refine Chk.mk (ptr_ok tblOk rfl rfl) ?_ | refine Chk.mk (by decide) ?_ | refine hS.ld rfl ?_ | refine hS.ldn rfl ?_ | (refine hS.st rfl rfl ?_; intro _ hS))
              refine (put_spec (sortF_srt fs) (filesAt_vec hS hvec) (vec_addr hvec) (by rw [sortF_len]; omega)).mono ?_
              rintro _ w11 ⟨a2, c2, L2, rfl, hvec, hS'⟩
              have hS := St.midA (hS.callNew hS')
              rw [sortF_put] at hvec
              rw [sortF_put]
              repeat (first | refine SemW.run tblOk ?_ | refine IntG.nw (by omega) ?_ | refine IntG.nu8 (by omega) ?_ | refine IntG.nu32 (by omega) ?_ | refine IntG.nu64 (by omega) ?_ | refine IntG.wr' rfl ?_ | refine Chk.mk (by omega) ?_ | (refine BrG.id ?_; first | with_reducible refine BrG.t ?_ | with_reducible refine BrG.f ?_ | with_reducible refine BrG.notG ?_ | with_reducible refine BrG.nn ?_ | with_reducible refine BrG.ns ?_ | refine BrG.pos (by omega) ?_ | refine BrG.neg (by omega) ?_ | with_reducible refine BrG.pos rfl ?_ | refine BrG.pos (by assumption) ?_ | refine BrG.neg (by assumption) ?_ | refine BrG.pos (by decide) ?_ | refine BrG.neg (by decide) ?_) | refine Chk.mk (ptr_ok tblOk rfl rfl) ?_ | refine Chk.mk (by decide) ?_ | refine hS.ld rfl ?_ | refine hS.ldn rfl ?_ | (refine hS.st rfl rfl ?_; intro _ hS))
              exact ⟨⟨fs ++ [f], k + 1, a2, c2⟩, ⟨rfl, rfl, rfl, rfl, rfl, rfl, rfl, trivial⟩, ⟨⟨by simp only; omega, hkf.symm⟩, L2, hvec, hS⟩, by simp only; omega⟩
          · have hke : k = v.files.length := by omega
            rw [hke, List.take_length] at hfs
            have hap : applyM v e = (addAll e.next fs e.add).map fun fs => ⟨sortF fs, e.wal, e.next, e.seq⟩ := by
              unfold applyM
              rw [hst, hdel, hfs]; rfl
            repeat (first | refine SemW.run tblOk ?_ | refine IntG.nw (by omega) ?_ | refine IntG.nu8 (by omega) ?_ | refine IntG.nu32 (by omega) ?_ | refine IntG.nu64 (by omega) ?_ | refine IntG.wr' rfl ?_ | refine Chk.mk (by omega) ?_ | (refine BrG.id ?_; first | with_reducible refine BrG.t ?_ | with_reducible refine BrG.f ?_ | with_reducible refine BrG.notG ?_ | with_reducible refine BrG.nn ?_ | with_reducible refine BrG.ns ?_ | refine BrG.pos (by omega) ?_ | refine BrG.neg (by omega) ?_ | with_reducible refine BrG.pos rfl ?_ | refine BrG.pos (by assumption) ?_ | refine BrG.neg (by assumption) ?_ | refine BrG.pos (by decide) ?_ | refine BrG.neg (by decide) ?_) | refine Chk.mk (ptr_ok tblOk rfl rfl) ?_ | refine Chk.mk (by decide) ?_ | refine hS.ld rfl ?_ | refine hS.ldn rfl ?_ | (refine hS.st rfl rfl ?_; intro _ hS))
            clear hke hkl hk hfs
            refine SemW.loop (fun z : GI => [(2, ptr b2), (3, ptr b3), (4, ptr b4), (8, .slice z.a (sortF z.fs).length z.c), (70, .slice x e.add.length cx), (71, .int .i64 e.add.length), (72, .int .i64 z.k)])
              (fun z w' => (z.k ≤ e.add.length ∧ z.fs.length ≤ v.files.length + z.k ∧ addAll e.next z.fs (e.add.drop z.k) = addAll e.next fs e.add) ∧ ∃ L, Vec T_api_File 2 z.a (sortF z.fs).length z.c ((sortF z.fs).flatMap fileC) L ∧ St w [] (L ++ [(b4, .cells ⟨[.slice none 0 0, .int .i64 0, .int .i64 0, .int .i64 0]⟩ T_api_Version (0, 0)), (b3, .cells ⟨[.slice x e.add.length cx, .slice y e.del.length cy, .int .i64 e.wal, .int .i64 e.next, .int .i64 e.seq]⟩ T_api_Edit (0, 0)), (b2, .cells ⟨[.slice a v.files.length ca, .int .i64 v.wal, .int .i64 v.next, .int .i64 v.seq]⟩ T_api_Version (0, 0))]) w') (fun z => e.add.length - z.k) ⟨fs, 0, a1, c1⟩
              ⟨rfl, rfl, rfl, rfl, rfl, rfl, rfl, trivial⟩ ⟨⟨Nat.zero_le _, hfl, rfl⟩, L, hvec, hS⟩ ?_
            clear hS hvec hfl
            generalize hgo : addAll e.next fs e.add = res at hap
            clear hgo
            rintro ⟨fs, k, a1, c1⟩ w9 ⟨⟨hk, hfl, hadd⟩, L, hvec, hS⟩
            simp only at hk hfl hadd hvec hS ⊢
            by_cases hkl : k < e.add.length
            · obtain ⟨g, off, rfl⟩ := he.add.pos (by omega)
              have hat := he.add.at hkl
              rw [List.drop_eq_getElem_cons hkl] at hadd
              generalize e.add[k] = f at hat hadd
              unfold addAll at hadd
              repeat (first | refine SemW.run tblOk ?_ | refine IntG.nw (by omega) ?_ | refine IntG.nu8 (by omega) ?_ | refine IntG.nu32 (by omega) ?_ | refine IntG.nu64 (by omega) ?_ | refine IntG.wr' rfl ?_ | refine Chk.mk (by omega) ?_ | (refine BrG.id ?_; first | with_reducible refine BrG.t ?_ | with_reducible refine BrG.f ?_ | with_reducible refine BrG.notG ?_ | with_reducible refine BrG.nn ?_ | with_reducible refine BrG.ns ?_ | refine BrG.pos (by omega) ?_ | refine BrG.neg (by omega) ?_ | with_reducible refine BrG.pos rfl ?_ | refine BrG.pos (by assumption) ?_ | refine BrG.neg (by assumption) ?_ | refine BrG.pos (by decide) ?_ | refine BrG.neg (by decide) ?_) | refine Chk.mk (ptr_ok tblOk rfl rfl) ?_ | refine Chk.mk (by decide) ?_)
              refine Arr.ldn hS he.add.arr rfl (k := k * 2) hat rfl ?_
              unfold fileC
              repeat (first | refine SemW.run tblOk ?_ | refine IntG.nw (by omega) ?_ | refine IntG.nu8 (by omega) ?_ | refine IntG.nu32 (by omega) ?_ | refine IntG.nu64 (by omega) ?_ | refine IntG.wr' rfl ?_ | refine Chk.mk (by omega) ?_ | (refine BrG.id ?_; first | with_reducible refine BrG.t ?_ | with_reducible refine BrG.f ?_ | with_reducible refine BrG.notG ?_ | with_reducible refine BrG.nn ?_ | with_reducible refine BrG.ns ?_ | refine BrG.pos (by omega) ?_ | refine BrG.neg (by omega) ?_ | with_reducible refine BrG.pos rfl ?_ | refine BrG.pos (by assumption) ?_ | refine BrG.neg (by assumption) ?_ | refine BrG.pos (by decide) ?_ | refine BrG.neg (by decide) ?_) | refine Chk.mk (ptr_ok tblOk rfl rfl) ?_ | refine Chk.mk (by decide) ?_)
              refine hS.al ?_
              intro b12 w10 _ hS
              repeat (first | refine SemW.run tblOk ?_ | refine IntG.nw (by omega) ?_ | refine IntG.nu8 (by omega) ?_ | refine IntG.nu32 (by omega) ?_ | refine IntG.nu64 (by omega) ?_ | refine IntG.wr' rfl ?_ | refine Chk.mk (by omega) ?_ | (refine BrG.id ?_; first | with_reducible refine BrG.t ?_ | with_reducible refine BrG.f ?_ | with_reducible refine BrG.notG ?_ | with_reducible refine BrG.nn ?_ | with_reducible refine BrG.ns ?_ | refine BrG.pos (by omega) ?_ | refine BrG.neg (by omega) ?_ | with_reducible refine BrG.pos rfl ?_ | refine BrG.pos (by assumption) ?_ | refine BrG.neg (by assumption) ?_ | refine BrG.pos (by decide) ?_ | refine BrG.neg (by decide) ?_) | refine Chk.mk (ptr_ok tblOk rfl rfl) ?_ | refine Chk.mk (by decide) ?_ | refine hS.ld rfl ?_ | refine hS.ldn rfl ?_ | (refine hS.st rfl rfl ?_; intro _ hS))
              refine (has_spec (filesAt_vec hS hvec) (by rw [sortF_len]; omega) f.2).mono ?_
              rintro _ w9 ⟨rfl, hS'⟩
              have hS := hS.call0 hS'
              rw [hasF_sort]
              by_cases h2 : hasF fs f.2 = true
              · rw [if_pos (.inr h2)] at hadd
                have hnone : applyM v e = none := by rw [hap, ← hadd]; rfl
                rw [h2]
                repeat (first | refine SemW.run tblOk ?_ | refine IntG.nw (by omega) ?_ | refine IntG.nu8 (by omega) ?_ | refine IntG.nu32 (by omega) ?_ | refine IntG.nu64 (by omega) ?_ | refine IntG.wr' rfl ?_ | refine Chk.mk (by omega) ?_ | (refine BrG.id ?_; first | with_reducible refine BrG.t ?_ | with_reducible refine BrG.f ?_ | with_reducible refine BrG.notG ?_ | with_reducible refine BrG.nn ?_ | with_reducible refine BrG.ns ?_ | refine BrG.pos (by omega) ?_ | refine BrG.neg (by omega) ?_ | with_reducible refine BrG.pos rfl ?_ | refine BrG.pos (by assumption) ?_ | refine BrG.neg (by assumption) ?_ | refine BrG.pos (by decide) ?_ | refine BrG.neg (by decide) ?_) | refine Chk.mk (ptr_ok tblOk rfl rfl) ?_ | refine Chk.mk (by decide) ?_ | refine hS.ld rfl ?_ | refine hS.ldn rfl ?_ | (refine hS.st rfl rfl ?_; intro _ hS))
                rw [hnone]; exact ⟨rfl, hS.nil⟩
              · have h2' : hasF fs f.2 = false := by simpa using h2
                rw [h2']
                by_cases h1 : e.next ≤ f.2
                · rw [if_pos (.inl h1)] at hadd
                  have hnone : applyM v e = none := by rw [hap, ← hadd]; rfl
                  repeat (first | refine SemW.run tblOk ?_ | refine IntG.nw (by omega) ?_ | refine IntG.nu8 (by omega) ?_ | refine IntG.nu32 (by omega) ?_ | refine IntG.nu64 (by omega) ?_ | refine IntG.wr' rfl ?_ | refine Chk.mk (by omega) ?_ | (refine BrG.id ?_; first | with_reducible refine BrG.t ?_ | with_reducible refine BrG.f ?_ | with_reducible refine BrG.notG ?_ | with_reducible refine BrG.nn ?_ | with_reducible refine BrG.ns ?_ | refine BrG.pos (by omega) ?_ | refine BrG.neg (by omega) ?_ | with_reducible refine BrG.pos rfl ?_ | refine BrG.pos (by assumption) ?_ | refine BrG.neg (by assumption) ?_ | refine BrG.pos (by decide) ?_ | refine BrG.neg (by decide) ?_) | refine Chk.mk (ptr_ok tblOk rfl rfl) ?_ | refine Chk.mk (by decide) ?_ | refine hS.ld rfl ?_ | refine hS.ldn rfl ?_ | (refine hS.st rfl rfl ?_; intro _ hS))
                  rw [hnone]; exact ⟨rfl, hS.nil⟩
                · rw [if_neg (by rintro (h | h); exact h1 h; exact h2 h)] at hadd
                  repeat (first | refine SemW.run tblOk ?_ | refine IntG.nw (by omega) ?_ | refine IntG.nu8 (by omega) ?_ | refine IntG.nu32 (by omega) ?_ | refine IntG.nu64 (by omega) ?_ | refine IntG.wr' rfl ?_ | refine Chk.mk (by omega) ?_ | (refine BrG.id ?_; first | with_reducible refine BrG.t ?_ | with_reducible refine BrG.f ?_ | with_reducible refine BrG.notG ?_ | with_reducible refine BrG.nn ?_ | with_reducible refine BrG.ns ?_ | refine BrG.pos (by omega) ?_ | refine BrG.neg (by omega) ?_ | with_reducible refine BrG.pos rfl ?_ | refine BrG.pos (by assumption) ?_ | refine BrG.neg (by assumption) ?_ | refine BrG.pos (by decide) ?_ | refine BrG.neg (by decide) ?_) | refine Chk.mk (ptr_ok tblOk rfl rfl) ?_ | refine Chk.mk (by decide) ?_ | refine hS.ld rfl ?_ | refine hS.ldn rfl ?_ | (refine hS.st rfl rfl ?_; intro _ hS))
                  refine (put_spec (sortF_srt fs) (filesAt_vec hS hvec) (vec_addr hvec) (by rw [sortF_len]; omega)).mono ?_
                  rintro _ w11 ⟨a2, c2, L2, rfl, hvec, hS'⟩
                  have hS := St.midA (hS.callNew hS')
                  rw [sortF_put] at hvec
                  rw [sortF_put]
                  repeat (first | refine SemW.run tblOk ?_ | refine IntG.nw (by omega) ?_ | refine IntG.nu8 (by omega) ?_ | refine IntG.nu32 (by omega) ?_ | refine IntG.nu64 (by omega) ?_ | refine IntG.wr' rfl ?_ | refine Chk.mk (by omega) ?_ | (refine BrG.id ?_; first | with_reducible refine BrG.t ?_ | with_reducible refine BrG.f ?_ | with_reducible refine BrG.notG ?_ | with_reducible refine BrG.nn ?_ | with_reducible refine BrG.ns ?_ | refine BrG.pos (by omega) ?_ | refine BrG.neg (by omega) ?_ | with_reducible refine BrG.pos rfl ?_ | refine BrG.pos (by assumption) ?_ | refine BrG.neg (by assumption) ?_ | refine BrG.pos (by decide) ?_ | refine BrG.neg (by decide) ?_) | refine Chk.mk (ptr_ok tblOk rfl rfl) ?_ | refine Chk.mk (by decide) ?_ | refine hS.ld rfl ?_ | refine hS.ldn rfl ?_ | (refine hS.st rfl rfl ?_; intro _ hS))
                  exact ⟨⟨fs ++ [f], k + 1, a2, c2⟩, ⟨rfl, rfl, rfl, rfl, rfl, rfl, rfl, trivial⟩, ⟨⟨by simp only; omega, by simp only [List.length_append, List.length_singleton]; omega, hadd⟩, L2, hvec, hS⟩, by simp only; omega⟩
            · have hke : k = e.add.length := by omega
              rw [hke, List.drop_length] at hadd
              have hsome : applyM v e = some ⟨sortF fs, e.wal, e.next, e.seq⟩ := by rw [hap, ← hadd]; rfl
              rw [hsome]
              repeat (first | refine SemW.run tblOk ?_ | refine IntG.nw (by omega) ?_ | refine IntG.nu8 (by omega) ?_ | refine IntG.nu32 (by omega) ?_ | refine IntG.nu64 (by omega) ?_ | refine IntG.wr' rfl ?_ | refine Chk.mk (by omega) ?_ | (refine BrG.id ?_; first | with_reducible refine BrG.t ?_ | with_reducible refine BrG.f ?_ | with_reducible refine BrG.notG ?_ | with_reducible refine BrG.nn ?_ | with_reducible refine BrG.ns ?_ | refine BrG.pos (by omega) ?_ | refine BrG.neg (by omega) ?_ | with_reducible refine BrG.pos rfl ?_ | refine BrG.pos (by assumption) ?_ | refine BrG.neg (by assumption) ?_ | refine BrG.pos (by decide) ?_ | refine BrG.neg (by decide) ?_) | refine Chk.mk (ptr_ok tblOk rfl rfl) ?_ | refine Chk.mk (by decide) ?_ | refine hS.ld rfl ?_ | refine hS.ldn rfl ?_ | (refine hS.st rfl rfl ?_; intro _ hS))
              exact ⟨a1, c1, L, rfl, ⟨hvec, her⟩, hS.sub (List.sublist_append_left _ _)⟩
  · have hr' : rightE e = false := by simpa using hr
    have hnone : applyM v e = none := by unfold applyM startOK; rw [hr']; simp
    rw [hr']
    repeat (first | refine SemW.run tblOk ?_ | refine IntG.nw (by omega) ?_ | refine IntG.nu8 (by omega) ?_ | refine IntG.nu32 (by omega) ?_ | refine IntG.nu64 (by omega) ?_ | refine IntG.wr' rfl ?_ | refine Chk.mk (by omega) ?_ | (refine BrG.id ?_; first | with_reducible refine BrG.t ?_ | with_reducible refine BrG.f ?_ | with_reducible refine BrG.notG ?_ | with_reducible refine BrG.nn ?_ | with_reducible refine BrG.ns ?_ | refine BrG.pos (by omega) ?_ | refine BrG.neg (by omega) ?_ | with_reducible refine BrG.pos rfl ?_ | refine BrG.pos (by assumption) ?_ | refine BrG.neg (by assumption) ?_ | refine BrG.pos (by decide) ?_ | refine BrG.neg (by decide) ?_) | refine Chk.mk (ptr_ok tblOk rfl rfl) ?_ | refine Chk.mk (by decide) ?_ | refine hS.ld rfl ?_ | refine hS.ldn rfl ?_ | (refine hS.st rfl rfl ?_; intro _ hS))
    rw [hnone]; exact ⟨rfl, hS.nil⟩
end Go.Proofs.YtkncpdehgcldbaaDoor
