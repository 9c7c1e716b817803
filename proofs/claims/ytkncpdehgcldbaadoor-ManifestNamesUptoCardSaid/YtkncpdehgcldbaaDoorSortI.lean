/- Insertion sort of a stretch. -/
import Derived.Test.YtkncpdehgcldbaaDoorSortW
namespace Go.Proofs.YtkncpdehgcldbaaDoor
open Go Go.Eng Go.Proofs Go.Srt
structure IT_api_File where
  M : List FileM
  k : Nat
structure JT_api_File where
  U : List FileM
  V : List FileM
set_option maxHeartbeats 8000000 in
theorem insertion_api_File {fc : FuncId} {cm : FileM → FileM → Int} (hO : Ord fun x y => decide (cm x y < 0)) (hcm : ∀ (x y : FileM) (w : World), Cl Tryd.prog fc [fileV x, fileV y] w fun v w' => v = .int .i64 (cm x y) ∧ St w [] [] w') {w : World} {g cap len : Nat} {a b : Int} {l P M S : List FileM} {tail : List Value} (hh : Holds [(g, .cells ⟨l.flatMap fileC ++ tail⟩ T_api_File (0, 0))] w) (hl : l = P ++ M ++ S) (hlL : l.length = len) (hlen : len ≤ 16777216) (ha : a = P.length) (hb : b = P.length + M.length) :
    Cl Tryd.prog f_slices_insertionSortCmpFunc_api_File [.slice (some ⟨g, 0, none⟩) len cap, .int .i64 a, .int .i64 b, .func (.func fc) ⟨[]⟩ ⟨[]⟩] w fun _ w' => ∃ M', M'.Perm M ∧ Srt (fun x y => decide (cm x y < 0)) M' ∧ St w [g] [(g, .cells ⟨(P ++ M' ++ S).flatMap fileC ++ tail⟩ T_api_File (0, 0))] w' := by
  have hS : St w [g] [(g, .cells ⟨l.flatMap fileC ++ tail⟩ T_api_File (0, 0))] w := St.enter hh
  have hll : len = P.length + M.length + S.length := by rw [← hlL, hl]; simp only [List.length_append]
  subst hl
  refine en_slices_insertionSortCmpFunc_api_File rfl ?_
  repeat (first | refine SemW.run tblOk ?_ | refine IntG.nw (by omega) ?_ | refine IntG.nu8 (by omega) ?_ | refine IntG.nu32 (by omega) ?_ | refine IntG.nu64 (by omega) ?_ | refine IntG.wr' rfl ?_ | refine Chk.mk (by omega) ?_ | (refine BrG.id ?_; first | with_reducible refine BrG.t ?_ | with_reducible refine BrG.f ?_ | with_reducible refine BrG.notG ?_ | with_reducible refine BrG.nn ?_ | with_reducible refine BrG.ns ?_ | refine BrG.pos (by omega) ?_ | refine BrG.neg (by omega) ?_ | with_reducible refine BrG.pos rfl ?_ | refine BrG.pos (by assumption) ?_ | refine BrG.neg (by assumption) ?_ | refine BrG.pos (by decide) ?_ | refine BrG.neg (by decide) ?_) | refine Chk.mk (ptr_ok tblOk rfl rfl) ?_ | refine Chk.mk (by decide) ?_)
  refine SemW.loop (fun x : IT_api_File => [(0, .slice (some ⟨g, 0, none⟩) len cap), (1, .int .i64 a), (2, .int .i64 b), (3, .func (.func fc) ⟨[]⟩ ⟨[]⟩), (8, .int .i64 (a + 1 + x.k))])
    (fun x w' => (x.M.Perm M ∧ (0 < M.length → x.k + 1 ≤ M.length) ∧ Srt (fun x y => decide (cm x y < 0)) (x.M.take (x.k + 1))) ∧ St w [g] [(g, .cells ⟨(P ++ x.M ++ S).flatMap fileC ++ tail⟩ T_api_File (0, 0))] w') (fun x => M.length - x.k) ⟨M, 0⟩
    ⟨rfl, rfl, rfl, rfl, by show _ = Value.int .i64 _; congr 1; simp only; omega, trivial⟩ ⟨⟨List.Perm.refl _, by simp only; omega, by cases M with | nil => exact Srt.nil | cons z M => exact List.pairwise_singleton _ _⟩, hS⟩ ?_
  clear hS
  rintro ⟨M1, k⟩ w1 ⟨⟨hp, hk, hs⟩, hS⟩
  simp only at hp hk hs hS ⊢
  have hpl := hp.length_eq
  by_cases hkl : k + 1 < M.length
  · obtain ⟨B, x, R, hM1, hB, -⟩ := cut_at (l := M1) (k := k + 1) (by omega)
    rw [hM1, List.take_left' hB] at hs
    subst hM1
    repeat (first | refine SemW.run tblOk ?_ | refine IntG.nw (by omega) ?_ | refine IntG.nu8 (by omega) ?_ | refine IntG.nu32 (by omega) ?_ | refine IntG.nu64 (by omega) ?_ | refine IntG.wr' rfl ?_ | refine Chk.mk (by omega) ?_ | (refine BrG.id ?_; first | with_reducible refine BrG.t ?_ | with_reducible refine BrG.f ?_ | with_reducible refine BrG.notG ?_ | with_reducible refine BrG.nn ?_ | with_reducible refine BrG.ns ?_ | refine BrG.pos (by omega) ?_ | refine BrG.neg (by omega) ?_ | with_reducible refine BrG.pos rfl ?_ | refine BrG.pos (by assumption) ?_ | refine BrG.neg (by assumption) ?_ | refine BrG.pos (by decide) ?_ | refine BrG.neg (by decide) ?_) | refine Chk.mk (ptr_ok tblOk rfl rfl) ?_ | refine Chk.mk (by decide) ?_)
    refine SemW.loop (fun y : JT_api_File => [(0, .slice (some ⟨g, 0, none⟩) len cap), (1, .int .i64 a), (2, .int .i64 b), (3, .func (.func fc) ⟨[]⟩ ⟨[]⟩), (8, .int .i64 (a + 1 + k)), (9, .int .i64 (a + y.U.length))])
      (fun y w' => (y.U ++ y.V = B ∧ ∀ v ∈ y.V, decide (cm x v < 0) = true) ∧ St w [g] [(g, .cells ⟨(P ++ (y.U ++ x :: y.V ++ R) ++ S).flatMap fileC ++ tail⟩ T_api_File (0, 0))] w') (fun y => y.U.length) ⟨B, []⟩
      ⟨rfl, rfl, rfl, rfl, rfl, by show _ = Value.int .i64 _; congr 1; simp only; omega, trivial⟩ ⟨⟨by simp, by simp⟩, by simpa using hS⟩ ?_
    clear hS
    rintro ⟨U, V⟩ w2 ⟨⟨hUV, hV⟩, hS⟩
    simp only at hUV hV hS ⊢
    have hUl : U.length + V.length = k + 1 := by rw [← hB, ← hUV, List.length_append]
    have hcl : (P ++ (U ++ x :: V ++ R) ++ S).length = len := by
      have := hp.length_eq
      simp only [List.length_append, List.length_cons] at this ⊢; omega
    by_cases hU : U = []
    · subst hU
      simp only [List.length_nil]
      repeat (first | refine SemW.run tblOk ?_ | refine IntG.nw (by omega) ?_ | refine IntG.nu8 (by omega) ?_ | refine IntG.nu32 (by omega) ?_ | refine IntG.nu64 (by omega) ?_ | refine IntG.wr' rfl ?_ | refine Chk.mk (by omega) ?_ | (refine BrG.id ?_; first | with_reducible refine BrG.t ?_ | with_reducible refine BrG.f ?_ | with_reducible refine BrG.notG ?_ | with_reducible refine BrG.nn ?_ | with_reducible refine BrG.ns ?_ | refine BrG.pos (by omega) ?_ | refine BrG.neg (by omega) ?_ | with_reducible refine BrG.pos rfl ?_ | refine BrG.pos (by assumption) ?_ | refine BrG.neg (by assumption) ?_ | refine BrG.pos (by decide) ?_ | refine BrG.neg (by decide) ?_) | refine Chk.mk (ptr_ok tblOk rfl rfl) ?_ | refine Chk.mk (by decide) ?_)
      refine SemW.draw tblOk mixed (fun w' => St w [g] [(g, .cells ⟨(P ++ ([] ++ x :: V ++ R) ++ S).flatMap fileC ++ tail⟩ T_api_File (0, 0))] w') [14, 15, 16] [0, 1, 2, 3, 4, 5, 6, 7, 8, 9, 10, 11, 12, 13, 14, 15, 16] (by kernel_rfl) hS.drew ?_
      have hS := hS.drew
      repeat (first | refine SemW.run tblOk ?_ | refine IntG.nw (by omega) ?_ | refine IntG.nu8 (by omega) ?_ | refine IntG.nu32 (by omega) ?_ | refine IntG.nu64 (by omega) ?_ | refine IntG.wr' rfl ?_ | refine Chk.mk (by omega) ?_ | (refine BrG.id ?_; first | with_reducible refine BrG.t ?_ | with_reducible refine BrG.f ?_ | with_reducible refine BrG.notG ?_ | with_reducible refine BrG.nn ?_ | with_reducible refine BrG.ns ?_ | refine BrG.pos (by omega) ?_ | refine BrG.neg (by omega) ?_ | with_reducible refine BrG.pos rfl ?_ | refine BrG.pos (by assumption) ?_ | refine BrG.neg (by assumption) ?_ | refine BrG.pos (by decide) ?_ | refine BrG.neg (by decide) ?_) | refine Chk.mk (ptr_ok tblOk rfl rfl) ?_ | refine Chk.mk (by decide) ?_ | refine hS.ldC rfl ?_ | refine hS.ldnC rfl ?_)
      refine ⟨⟨x :: V ++ R, k + 1⟩, ⟨rfl, rfl, rfl, rfl, by show _ = Value.int .i64 _; congr 1; simp only; omega, trivial⟩, ⟨⟨?_, by simp only; omega, ?_⟩, by simpa using hS⟩, by simp only; omega⟩
      · refine List.Perm.trans ?_ hp
        rw [← hUV, List.nil_append]
        simp only [List.cons_append]
        exact List.perm_middle.symm
      · have e4 : (x :: V ++ R).take (k + 1 + 1) = x :: V := List.take_left' (by rw [List.length_nil] at hUl; simp only [List.length_cons]; omega)
        simp only [e4]
        rw [← hUV] at hs
        exact insert_sorted hO (U := []) hs hV nofun
    · obtain ⟨U', u, rfl⟩ : ∃ U' u, U = U' ++ [u] := ⟨U.dropLast, U.getLast hU, (List.dropLast_concat_getLast hU).symm⟩
      rw [List.length_append, List.length_singleton] at hUl
      have hUu : (U' ++ [u]).length = U'.length + 1 := by simp
      rw [hUu]
      have e0 : P ++ (U' ++ [u] ++ x :: V ++ R) ++ S = (P ++ U') ++ u :: x :: (V ++ R ++ S) := by simp
      rw [e0] at hS
      have hi : P.length + U'.length < ((P ++ U') ++ u :: x :: (V ++ R ++ S)).length := by simp only [List.length_append, List.length_cons]; omega
      have hj : P.length + U'.length + 1 < ((P ++ U') ++ u :: x :: (V ++ R ++ S)).length := by simp only [List.length_append, List.length_cons]; omega
      have e1 : ((P ++ U') ++ u :: x :: (V ++ R ++ S))[P.length + U'.length] = u := get_mid _ _ _ _ _ (by rw [List.length_append])
      have e2 : ((P ++ U') ++ u :: x :: (V ++ R ++ S))[P.length + U'.length + 1] = x := get_adj _ _ _ _ _ _ (by rw [List.length_append])
      have hsw := swp_adj (P ++ U') (V ++ R ++ S) u x (P.length + U'.length) (by rw [List.length_append])
      repeat (first | refine SemW.run tblOk ?_ | refine IntG.nw (by omega) ?_ | refine IntG.nu8 (by omega) ?_ | refine IntG.nu32 (by omega) ?_ | refine IntG.nu64 (by omega) ?_ | refine IntG.wr' rfl ?_ | refine Chk.mk (by omega) ?_ | (refine BrG.id ?_; first | with_reducible refine BrG.t ?_ | with_reducible refine BrG.f ?_ | with_reducible refine BrG.notG ?_ | with_reducible refine BrG.nn ?_ | with_reducible refine BrG.ns ?_ | refine BrG.pos (by omega) ?_ | refine BrG.neg (by omega) ?_ | with_reducible refine BrG.pos rfl ?_ | refine BrG.pos (by assumption) ?_ | refine BrG.neg (by assumption) ?_ | refine BrG.pos (by decide) ?_ | refine BrG.neg (by decide) ?_) | refine Chk.mk (ptr_ok tblOk rfl rfl) ?_ | refine Chk.mk (by decide) ?_)
      refine SemW.draw tblOk mixed (fun w' => St w [g] [(g, .cells ⟨(P ++ U' ++ u :: x :: (V ++ R ++ S)).flatMap fileC ++ tail⟩ T_api_File (0, 0))] w') [14, 15, 16] [0, 1, 2, 3, 4, 5, 6, 7, 8, 9, 10, 11, 12, 13, 14, 15, 16] (by kernel_rfl) hS.drew ?_
      have hS := hS.drew
      repeat (first | refine SemW.run tblOk ?_ | refine IntG.nw (by omega) ?_ | refine IntG.nu8 (by omega) ?_ | refine IntG.nu32 (by omega) ?_ | refine IntG.nu64 (by omega) ?_ | refine IntG.wr' rfl ?_ | refine Chk.mk (by omega) ?_ | (refine BrG.id ?_; first | with_reducible refine BrG.t ?_ | with_reducible refine BrG.f ?_ | with_reducible refine BrG.notG ?_ | with_reducible refine BrG.nn ?_ | with_reducible refine BrG.ns ?_ | refine BrG.pos (by omega) ?_ | refine BrG.neg (by omega) ?_ | with_reducible refine BrG.pos rfl ?_ | refine BrG.pos (by assumption) ?_ | refine BrG.neg (by assumption) ?_ | refine BrG.pos (by decide) ?_ | refine BrG.neg (by decide) ?_) | refine Chk.mk (ptr_ok tblOk rfl rfl) ?_ | refine Chk.mk (by decide) ?_ | refine hS.ldC rfl ?_ | refine hS.ldnC rfl ?_)
      refine St.ldEC (sz := 2) (cv := fileC) (fun _ => rfl) hS hj ?_ ?_
      · omega
      rw [e2]
      repeat (first | refine SemW.run tblOk ?_ | refine IntG.nw (by omega) ?_ | refine IntG.nu8 (by omega) ?_ | refine IntG.nu32 (by omega) ?_ | refine IntG.nu64 (by omega) ?_ | refine IntG.wr' rfl ?_ | refine Chk.mk (by omega) ?_ | (refine BrG.id ?_; first | with_reducible refine BrG.t ?_ | with_reducible refine BrG.f ?_ | with_reducible refine BrG.notG ?_ | with_reducible refine BrG.nn ?_ | with_reducible refine BrG.ns ?_ | refine BrG.pos (by omega) ?_ | refine BrG.neg (by omega) ?_ | with_reducible refine BrG.pos rfl ?_ | refine BrG.pos (by assumption) ?_ | refine BrG.neg (by assumption) ?_ | refine BrG.pos (by decide) ?_ | refine BrG.neg (by decide) ?_) | refine Chk.mk (ptr_ok tblOk rfl rfl) ?_ | refine Chk.mk (by decide) ?_ | refine hS.ldC rfl ?_ | refine hS.ldnC rfl ?_)
      refine St.ldEC (sz := 2) (cv := fileC) (fun _ => rfl) hS hi ?_ ?_
      · omega
      rw [e1]
      repeat (first | refine SemW.run tblOk ?_ | refine IntG.nw (by omega) ?_ | refine IntG.nu8 (by omega) ?_ | refine IntG.nu32 (by omega) ?_ | refine IntG.nu64 (by omega) ?_ | refine IntG.wr' rfl ?_ | refine Chk.mk (by omega) ?_ | (refine BrG.id ?_; first | with_reducible refine BrG.t ?_ | with_reducible refine BrG.f ?_ | with_reducible refine BrG.notG ?_ | with_reducible refine BrG.nn ?_ | with_reducible refine BrG.ns ?_ | refine BrG.pos (by omega) ?_ | refine BrG.neg (by omega) ?_ | with_reducible refine BrG.pos rfl ?_ | refine BrG.pos (by assumption) ?_ | refine BrG.neg (by assumption) ?_ | refine BrG.pos (by decide) ?_ | refine BrG.neg (by decide) ?_) | refine Chk.mk (ptr_ok tblOk rfl rfl) ?_ | refine Chk.mk (by decide) ?_ | refine hS.ldC rfl ?_ | refine hS.ldnC rfl ?_)
      refine (hcm x u _).mono ?_
      rintro _ w3 ⟨rfl, hS'⟩
      have hS := hS.call0 hS'
      by_cases hlt : cm x u < 0
      · repeat (first | refine SemW.run tblOk ?_ | refine IntG.nw (by omega) ?_ | refine IntG.nu8 (by omega) ?_ | refine IntG.nu32 (by omega) ?_ | refine IntG.nu64 (by omega) ?_ | refine IntG.wr' rfl ?_ | refine Chk.mk (by omega) ?_ | (refine BrG.id ?_; first | with_reducible refine BrG.t ?_ | with_reducible refine BrG.f ?_ | with_reducible refine BrG.notG ?_ | with_reducible refine BrG.nn ?_ | with_reducible refine BrG.ns ?_ | refine BrG.pos (by omega) ?_ | refine BrG.neg (by omega) ?_ | with_reducible refine BrG.pos rfl ?_ | refine BrG.pos (by assumption) ?_ | refine BrG.neg (by assumption) ?_ | refine BrG.pos (by decide) ?_ | refine BrG.neg (by decide) ?_) | refine Chk.mk (ptr_ok tblOk rfl rfl) ?_ | refine Chk.mk (by decide) ?_)
        refine SemW.draw tblOk mixed (fun w' => St w [g] [(g, .cells ⟨(P ++ U' ++ u :: x :: (V ++ R ++ S)).flatMap fileC ++ tail⟩ T_api_File (0, 0))] w') [2, 3, 4, 15, 16, 17] [2, 3, 4, 0, 1, 5, 6, 7, 8, 9, 10, 11, 12, 13, 14, 15, 16, 17] (by kernel_rfl) hS.drew ?_
        have hS := hS.drew
        repeat (first | refine SemW.run tblOk ?_ | refine IntG.nw (by omega) ?_ | refine IntG.nu8 (by omega) ?_ | refine IntG.nu32 (by omega) ?_ | refine IntG.nu64 (by omega) ?_ | refine IntG.wr' rfl ?_ | refine Chk.mk (by omega) ?_ | (refine BrG.id ?_; first | with_reducible refine BrG.t ?_ | with_reducible refine BrG.f ?_ | with_reducible refine BrG.notG ?_ | with_reducible refine BrG.nn ?_ | with_reducible refine BrG.ns ?_ | refine BrG.pos (by omega) ?_ | refine BrG.neg (by omega) ?_ | with_reducible refine BrG.pos rfl ?_ | refine BrG.pos (by assumption) ?_ | refine BrG.neg (by assumption) ?_ | refine BrG.pos (by decide) ?_ | refine BrG.neg (by decide) ?_) | refine Chk.mk (ptr_ok tblOk rfl rfl) ?_ | refine Chk.mk (by decide) ?_ | refine hS.ldC rfl ?_ | refine hS.ldnC rfl ?_)
        refine St.ldEC (sz := 2) (cv := fileC) (fun _ => rfl) hS hi ?_ ?_
        · omega
        rw [e1]
        repeat (first | refine SemW.run tblOk ?_ | refine IntG.nw (by omega) ?_ | refine IntG.nu8 (by omega) ?_ | refine IntG.nu32 (by omega) ?_ | refine IntG.nu64 (by omega) ?_ | refine IntG.wr' rfl ?_ | refine Chk.mk (by omega) ?_ | (refine BrG.id ?_; first | with_reducible refine BrG.t ?_ | with_reducible refine BrG.f ?_ | with_reducible refine BrG.notG ?_ | with_reducible refine BrG.nn ?_ | with_reducible refine BrG.ns ?_ | refine BrG.pos (by omega) ?_ | refine BrG.neg (by omega) ?_ | with_reducible refine BrG.pos rfl ?_ | refine BrG.pos (by assumption) ?_ | refine BrG.neg (by assumption) ?_ | refine BrG.pos (by decide) ?_ | refine BrG.neg (by decide) ?_) | refine Chk.mk (ptr_ok tblOk rfl rfl) ?_ | refine Chk.mk (by decide) ?_ | refine hS.ldC rfl ?_ | refine hS.ldnC rfl ?_)
        refine St.ldEC (sz := 2) (cv := fileC) (fun _ => rfl) hS hj ?_ ?_
        · omega
        rw [e2]
        repeat (first | refine SemW.run tblOk ?_ | refine IntG.nw (by omega) ?_ | refine IntG.nu8 (by omega) ?_ | refine IntG.nu32 (by omega) ?_ | refine IntG.nu64 (by omega) ?_ | refine IntG.wr' rfl ?_ | refine Chk.mk (by omega) ?_ | (refine BrG.id ?_; first | with_reducible refine BrG.t ?_ | with_reducible refine BrG.f ?_ | with_reducible refine BrG.notG ?_ | with_reducible refine BrG.nn ?_ | with_reducible refine BrG.ns ?_ | refine BrG.pos (by omega) ?_ | refine BrG.neg (by omega) ?_ | with_reducible refine BrG.pos rfl ?_ | refine BrG.pos (by assumption) ?_ | refine BrG.neg (by assumption) ?_ | refine BrG.pos (by decide) ?_ | refine BrG.neg (by decide) ?_) | refine Chk.mk (ptr_ok tblOk rfl rfl) ?_ | refine Chk.mk (by decide) ?_ | refine hS.ldC rfl ?_ | refine hS.ldnC rfl ?_)
        refine St.stE (sz := 2) (cv := fileC) (fun _ => rfl) (fun _ => rfl) hS hj ?_ ?_
        · omega
        intro w4 hS
        repeat (first | refine SemW.run tblOk ?_ | refine IntG.nw (by omega) ?_ | refine IntG.nu8 (by omega) ?_ | refine IntG.nu32 (by omega) ?_ | refine IntG.nu64 (by omega) ?_ | refine IntG.wr' rfl ?_ | refine Chk.mk (by omega) ?_ | (refine BrG.id ?_; first | with_reducible refine BrG.t ?_ | with_reducible refine BrG.f ?_ | with_reducible refine BrG.notG ?_ | with_reducible refine BrG.nn ?_ | with_reducible refine BrG.ns ?_ | refine BrG.pos (by omega) ?_ | refine BrG.neg (by omega) ?_ | with_reducible refine BrG.pos rfl ?_ | refine BrG.pos (by assumption) ?_ | refine BrG.neg (by assumption) ?_ | refine BrG.pos (by decide) ?_ | refine BrG.neg (by decide) ?_) | refine Chk.mk (ptr_ok tblOk rfl rfl) ?_ | refine Chk.mk (by decide) ?_ | refine hS.ldC rfl ?_ | refine hS.ldnC rfl ?_)
        refine St.stE (sz := 2) (cv := fileC) (fun _ => rfl) (fun _ => rfl) hS (k := P.length + U'.length) (by rw [List.length_set]; exact hi) ?_ ?_
        · omega
        intro w5 hS
        rw [hsw] at hS
        repeat (first | refine SemW.run tblOk ?_ | refine IntG.nw (by omega) ?_ | refine IntG.nu8 (by omega) ?_ | refine IntG.nu32 (by omega) ?_ | refine IntG.nu64 (by omega) ?_ | refine IntG.wr' rfl ?_ | refine Chk.mk (by omega) ?_ | (refine BrG.id ?_; first | with_reducible refine BrG.t ?_ | with_reducible refine BrG.f ?_ | with_reducible refine BrG.notG ?_ | with_reducible refine BrG.nn ?_ | with_reducible refine BrG.ns ?_ | refine BrG.pos (by omega) ?_ | refine BrG.neg (by omega) ?_ | with_reducible refine BrG.pos rfl ?_ | refine BrG.pos (by assumption) ?_ | refine BrG.neg (by assumption) ?_ | refine BrG.pos (by decide) ?_ | refine BrG.neg (by decide) ?_) | refine Chk.mk (ptr_ok tblOk rfl rfl) ?_ | refine Chk.mk (by decide) ?_)
        refine ⟨⟨U', u :: V⟩, ⟨rfl, rfl, rfl, rfl, rfl, by show _ = Value.int .i64 _; congr 1; simp only; omega, trivial⟩, ⟨⟨by rw [← hUV]; simp, ?_⟩, ?_⟩, by simp only; omega⟩
        · intro v hv
          rcases List.mem_cons.1 hv with rfl | hv
          · exact decide_eq_true hlt
          · exact hV v hv
        · have e3 : P ++ (U' ++ x :: (u :: V) ++ R) ++ S = P ++ U' ++ x :: u :: (V ++ R ++ S) := by simp
          simp only [e3]; exact hS
      · repeat (first | refine SemW.run tblOk ?_ | refine IntG.nw (by omega) ?_ | refine IntG.nu8 (by omega) ?_ | refine IntG.nu32 (by omega) ?_ | refine IntG.nu64 (by omega) ?_ | refine IntG.wr' rfl ?_ | refine Chk.mk (by omega) ?_ | (refine BrG.id ?_; first | with_reducible refine BrG.t ?_ | with_reducible refine BrG.f ?_ | with_reducible refine BrG.notG ?_ | with_reducible refine BrG.nn ?_ | with_reducible refine BrG.ns ?_ | refine BrG.pos (by omega) ?_ | refine BrG.neg (by omega) ?_ | with_reducible refine BrG.pos rfl ?_ | refine BrG.pos (by assumption) ?_ | refine BrG.neg (by assumption) ?_ | refine BrG.pos (by decide) ?_ | refine BrG.neg (by decide) ?_) | refine Chk.mk (ptr_ok tblOk rfl rfl) ?_ | refine Chk.mk (by decide) ?_)
        refine ⟨⟨U' ++ [u] ++ x :: V ++ R, k + 1⟩, ⟨rfl, rfl, rfl, rfl, by show _ = Value.int .i64 _; congr 1; simp only; omega, trivial⟩, ⟨⟨?_, by simp only; omega, ?_⟩, ?_⟩, by simp only; omega⟩
        · refine List.Perm.trans ?_ hp
          rw [← hUV]
          refine (List.Perm.append_right R (List.perm_middle)).trans ?_
          simp only [List.cons_append]
          exact List.perm_middle.symm
        · have e4 : (U' ++ [u] ++ x :: V ++ R).take (k + 1 + 1) = U' ++ [u] ++ x :: V := List.take_left' (by simp only [List.length_append, List.length_cons, List.length_nil]; omega)
          simp only [e4]
          rw [← hUV] at hs
          exact insert_sorted hO hs hV fun z hz => (by rw [List.getLast?_concat, Option.some.injEq] at hz; subst hz; exact decide_eq_false hlt)
        · rw [← e0] at hS; exact hS
  · repeat (first | refine SemW.run tblOk ?_ | refine IntG.nw (by omega) ?_ | refine IntG.nu8 (by omega) ?_ | refine IntG.nu32 (by omega) ?_ | refine IntG.nu64 (by omega) ?_ | refine IntG.wr' rfl ?_ | refine Chk.mk (by omega) ?_ | (refine BrG.id ?_; first | with_reducible refine BrG.t ?_ | with_reducible refine BrG.f ?_ | with_reducible refine BrG.notG ?_ | with_reducible refine BrG.nn ?_ | with_reducible refine BrG.ns ?_ | refine BrG.pos (by omega) ?_ | refine BrG.neg (by omega) ?_ | with_reducible refine BrG.pos rfl ?_ | refine BrG.pos (by assumption) ?_ | refine BrG.neg (by assumption) ?_ | refine BrG.pos (by decide) ?_ | refine BrG.neg (by decide) ?_) | refine Chk.mk (ptr_ok tblOk rfl rfl) ?_ | refine Chk.mk (by decide) ?_)
    refine ⟨M1, hp, ?_, hS⟩
    rw [List.take_of_length_le (by omega)] at hs
    exact hs
end Go.Proofs.YtkncpdehgcldbaaDoor
