/- The stable sort, in place. -/
import Derived.Test.YtkncpdehgcldbaaDoorSortS
namespace Go.Proofs.YtkncpdehgcldbaaDoor
open Go Go.Eng Go.Proofs Go.Srt
structure ST_api_File where
  bs : List (List FileM)
  R : List FileM
structure SU_api_File where
  l : List FileM
  n : Nat
set_option maxRecDepth 4000 in
set_option maxHeartbeats 16000000 in
theorem stable_api_File {fc : FuncId} {cm : FileM → FileM → Int} (hO : Ord fun x y => decide (cm x y < 0)) (hcm : ∀ (x y : FileM) (w : World), Cl Tryd.prog fc [fileV x, fileV y] w fun v w' => v = .int .i64 (cm x y) ∧ St w [] [] w') {w : World} {g cap len : Nat} {l : List FileM} {tail : List Value} (hh : Holds [(g, .cells ⟨l.flatMap fileC ++ tail⟩ T_api_File (0, 0))] w) (hlL : l.length = len) (hlen : len ≤ 16777216) :
    Cl Tryd.prog f_slices_stableCmpFunc_api_File [.slice (some ⟨g, 0, none⟩) len cap, .int .i64 len, .func (.func fc) ⟨[]⟩ ⟨[]⟩] w fun _ w' => ∃ l', l'.Perm l ∧ Srt (fun x y => decide (cm x y < 0)) l' ∧ St w [g] [(g, .cells ⟨l'.flatMap fileC ++ tail⟩ T_api_File (0, 0))] w' := by
  have hS : St w [g] [(g, .cells ⟨l.flatMap fileC ++ tail⟩ T_api_File (0, 0))] w := St.enter hh
  refine en_slices_stableCmpFunc_api_File rfl ?_
  repeat (first | refine SemW.run tblOk ?_ | refine IntG.nw (by omega) ?_ | refine IntG.nu8 (by omega) ?_ | refine IntG.nu32 (by omega) ?_ | refine IntG.nu64 (by omega) ?_ | refine IntG.wr' rfl ?_ | refine Chk.mk (by omega) ?_ | (refine BrG.id ?_; first | with_reducible refine BrG.t ?_ | with_reducible refine BrG.f ?_ | with_reducible refine BrG.notG ?_ | with_reducible refine BrG.nn ?_ | with_reducible refine BrG.ns ?_ | refine BrG.pos (by omega) ?_ | refine BrG.neg (by omega) ?_ | with_reducible refine BrG.pos rfl ?_ | refine BrG.pos (by assumption) ?_ | refine BrG.neg (by assumption) ?_ | refine BrG.pos (by decide) ?_ | refine BrG.neg (by decide) ?_) | refine Chk.mk (ptr_ok tblOk rfl rfl) ?_ | refine Chk.mk (by decide) ?_)
  refine SemW.loop (fun x : ST_api_File => [(0, .slice (some ⟨g, 0, none⟩) len cap), (1, .int .i64 len), (2, .func (.func fc) ⟨[]⟩ ⟨[]⟩), (6, .int .i64 20), (7, .int .i64 x.bs.flatten.length), (8, .int .i64 (x.bs.flatten.length + 20))])
    (fun x w' => ((x.bs.flatten ++ x.R).Perm l ∧ Full (fun x y => decide (cm x y < 0)) 20 x.bs) ∧ St w [g] [(g, .cells ⟨(x.bs.flatten ++ x.R).flatMap fileC ++ tail⟩ T_api_File (0, 0))] w') (fun x => x.R.length) ⟨[], l⟩
    ⟨rfl, rfl, rfl, rfl, rfl, rfl, trivial⟩ ⟨⟨List.Perm.refl _, nofun⟩, hS⟩ ?_
  clear hS
  rintro ⟨bs, R⟩ w1 ⟨⟨hp, hf⟩, hS⟩
  simp only at hp hf hS ⊢
  have hpl := hp.length_eq
  rw [List.length_append] at hpl
  generalize hbl : bs.flatten.length = q at hpl ⊢
  by_cases hle : 20 ≤ R.length
  · obtain ⟨X, R', rfl, hX⟩ : ∃ X R', R = X ++ R' ∧ X.length = 20 := ⟨R.take 20, R.drop 20, (List.take_append_drop _ _).symm, by rw [List.length_take]; omega⟩
    rw [List.length_append] at hpl
    repeat (first | refine SemW.run tblOk ?_ | refine IntG.nw (by omega) ?_ | refine IntG.nu8 (by omega) ?_ | refine IntG.nu32 (by omega) ?_ | refine IntG.nu64 (by omega) ?_ | refine IntG.wr' rfl ?_ | refine Chk.mk (by omega) ?_ | (refine BrG.id ?_; first | with_reducible refine BrG.t ?_ | with_reducible refine BrG.f ?_ | with_reducible refine BrG.notG ?_ | with_reducible refine BrG.nn ?_ | with_reducible refine BrG.ns ?_ | refine BrG.pos (by omega) ?_ | refine BrG.neg (by omega) ?_ | with_reducible refine BrG.pos rfl ?_ | refine BrG.pos (by assumption) ?_ | refine BrG.neg (by assumption) ?_ | refine BrG.pos (by decide) ?_ | refine BrG.neg (by decide) ?_) | refine Chk.mk (ptr_ok tblOk rfl rfl) ?_ | refine Chk.mk (by decide) ?_)
    refine (insertion_api_File hO hcm hS.holds (P := bs.flatten) (M := X) (S := R') (by simp only [List.append_assoc]) (hp.length_eq.trans hlL) hlen (by omega) (by omega)).mono ?_
    rintro _ w2 ⟨X', p1, s1, hS'⟩
    have hS := hS.call1 hS'
    have e1 : (bs ++ [X']).flatten = bs.flatten ++ X' := by simp
    have hXl := p1.length_eq
    have e2 : (bs ++ [X']).flatten.length = q + 20 := by rw [e1, List.length_append]; omega
    repeat (first | refine SemW.run tblOk ?_ | refine IntG.nw (by omega) ?_ | refine IntG.nu8 (by omega) ?_ | refine IntG.nu32 (by omega) ?_ | refine IntG.nu64 (by omega) ?_ | refine IntG.wr' rfl ?_ | refine Chk.mk (by omega) ?_ | (refine BrG.id ?_; first | with_reducible refine BrG.t ?_ | with_reducible refine BrG.f ?_ | with_reducible refine BrG.notG ?_ | with_reducible refine BrG.nn ?_ | with_reducible refine BrG.ns ?_ | refine BrG.pos (by omega) ?_ | refine BrG.neg (by omega) ?_ | with_reducible refine BrG.pos rfl ?_ | refine BrG.pos (by assumption) ?_ | refine BrG.neg (by assumption) ?_ | refine BrG.pos (by decide) ?_ | refine BrG.neg (by decide) ?_) | refine Chk.mk (ptr_ok tblOk rfl rfl) ?_ | refine Chk.mk (by decide) ?_)
    refine ⟨⟨bs ++ [X'], R'⟩, ⟨rfl, rfl, rfl, rfl, by show _ = Value.int .i64 _; congr 1; simp only; omega, by show _ = Value.int .i64 _; congr 1; simp only; omega, trivial⟩, ⟨⟨?_, hf.snoc (by omega) s1⟩, ?_⟩, by simp only [List.length_append]; omega⟩
    · simp only [e1]
      refine List.Perm.trans ?_ hp
      rw [List.append_assoc]
      exact (p1.append_right R').append_left _
    · simp only [e1]; exact hS
  · repeat (first | refine SemW.run tblOk ?_ | refine IntG.nw (by omega) ?_ | refine IntG.nu8 (by omega) ?_ | refine IntG.nu32 (by omega) ?_ | refine IntG.nu64 (by omega) ?_ | refine IntG.wr' rfl ?_ | refine Chk.mk (by omega) ?_ | (refine BrG.id ?_; first | with_reducible refine BrG.t ?_ | with_reducible refine BrG.f ?_ | with_reducible refine BrG.notG ?_ | with_reducible refine BrG.nn ?_ | with_reducible refine BrG.ns ?_ | refine BrG.pos (by omega) ?_ | refine BrG.neg (by omega) ?_ | with_reducible refine BrG.pos rfl ?_ | refine BrG.pos (by assumption) ?_ | refine BrG.neg (by assumption) ?_ | refine BrG.pos (by decide) ?_ | refine BrG.neg (by decide) ?_) | refine Chk.mk (ptr_ok tblOk rfl rfl) ?_ | refine Chk.mk (by decide) ?_)
    refine (insertion_api_File hO hcm hS.holds (P := bs.flatten) (M := R) (S := []) (by rw [List.append_nil]) (hp.length_eq.trans hlL) hlen (by omega) (by omega)).mono ?_
    rintro _ w2 ⟨R1, p1, s1, hS'⟩
    have hS := hS.call1 hS'
    rw [List.append_nil] at hS
    have hRl := p1.length_eq
    have hp1 : (bs.flatten ++ R1).Perm l := (p1.append_left _).trans hp
    have hc : Cks (fun x y => decide (cm x y < 0)) 20 (bs.flatten ++ R1) := ⟨bs, R1, rfl, hf, by omega, s1⟩
    generalize bs.flatten ++ R1 = l1 at hS hc hp1
    clear hRl p1 s1 hpl hbl hf hp hle
    repeat (first | refine SemW.run tblOk ?_ | refine IntG.nw (by omega) ?_ | refine IntG.nu8 (by omega) ?_ | refine IntG.nu32 (by omega) ?_ | refine IntG.nu64 (by omega) ?_ | refine IntG.wr' rfl ?_ | refine Chk.mk (by omega) ?_ | (refine BrG.id ?_; first | with_reducible refine BrG.t ?_ | with_reducible refine BrG.f ?_ | with_reducible refine BrG.notG ?_ | with_reducible refine BrG.nn ?_ | with_reducible refine BrG.ns ?_ | refine BrG.pos (by omega) ?_ | refine BrG.neg (by omega) ?_ | with_reducible refine BrG.pos rfl ?_ | refine BrG.pos (by assumption) ?_ | refine BrG.neg (by assumption) ?_ | refine BrG.pos (by decide) ?_ | refine BrG.neg (by decide) ?_) | refine Chk.mk (ptr_ok tblOk rfl rfl) ?_ | refine Chk.mk (by decide) ?_)
    refine SemW.loop (fun x : SU_api_File => [(0, .slice (some ⟨g, 0, none⟩) len cap), (1, .int .i64 len), (2, .func (.func fc) ⟨[]⟩ ⟨[]⟩), (6, .int .i64 x.n)])
      (fun x w' => (x.l.Perm l ∧ Cks (fun x y => decide (cm x y < 0)) x.n x.l ∧ 1 ≤ x.n) ∧ St w [g] [(g, .cells ⟨x.l.flatMap fileC ++ tail⟩ T_api_File (0, 0))] w') (fun x => len - x.n) ⟨l1, 20⟩
      ⟨rfl, rfl, rfl, rfl, trivial⟩ ⟨⟨hp1, hc, by simp only; omega⟩, hS⟩ ?_
    clear hS hp1 hc
    rintro ⟨l2, n⟩ w3 ⟨⟨hp, hc, hn⟩, hS⟩
    simp only at hp hc hn hS ⊢
    have hpl := hp.length_eq
    by_cases hnl : n < len
    · obtain ⟨bs0, r, rfl, hf0, hr, hsr⟩ := hc
      repeat (first | refine SemW.run tblOk ?_ | refine IntG.nw (by omega) ?_ | refine IntG.nu8 (by omega) ?_ | refine IntG.nu32 (by omega) ?_ | refine IntG.nu64 (by omega) ?_ | refine IntG.wr' rfl ?_ | refine Chk.mk (by omega) ?_ | (refine BrG.id ?_; first | with_reducible refine BrG.t ?_ | with_reducible refine BrG.f ?_ | with_reducible refine BrG.notG ?_ | with_reducible refine BrG.nn ?_ | with_reducible refine BrG.ns ?_ | refine BrG.pos (by omega) ?_ | refine BrG.neg (by omega) ?_ | with_reducible refine BrG.pos rfl ?_ | refine BrG.pos (by assumption) ?_ | refine BrG.neg (by assumption) ?_ | refine BrG.pos (by decide) ?_ | refine BrG.neg (by decide) ?_) | refine Chk.mk (ptr_ok tblOk rfl rfl) ?_ | refine Chk.mk (by decide) ?_)
      refine SemW.loop (fun x : List (List FileM) × List (List FileM) => [(0, .slice (some ⟨g, 0, none⟩) len cap), (1, .int .i64 len), (2, .func (.func fc) ⟨[]⟩ ⟨[]⟩), (6, .int .i64 n), (7, .int .i64 x.1.flatten.length), (8, .int .i64 (x.1.flatten.length + 2 * n))])
        (fun x w' => ((x.1.flatten ++ x.2.flatten ++ r).Perm l ∧ Full (fun x y => decide (cm x y < 0)) (2 * n) x.1 ∧ Full (fun x y => decide (cm x y < 0)) n x.2) ∧ St w [g] [(g, .cells ⟨(x.1.flatten ++ x.2.flatten ++ r).flatMap fileC ++ tail⟩ T_api_File (0, 0))] w') (fun x => x.2.length) ([], bs0)
        ⟨rfl, rfl, rfl, rfl, rfl, by show _ = Value.int .i64 _; congr 1; simp only [List.flatten_nil, List.length_nil]; omega, trivial⟩ ⟨⟨hp, nofun, hf0⟩, hS⟩ ?_
      clear hS hf0 hp
      rintro ⟨b1, b2⟩ w4 ⟨⟨hp, hf1, hf2⟩, hS⟩
      simp only at hp hf1 hf2 hS ⊢
      have hpl2 := hp.length_eq
      rw [List.length_append, List.length_append] at hpl2
      have hlL4 := hp.length_eq.trans hlL
      generalize hbl : b1.flatten.length = q at hpl2 ⊢
      match b2, hf2, hpl2, hp, hS, hlL4 with
      | x :: y :: rest, hf2, hpl2, hp, hS, hlL4 =>
        have hx := hf2.hd
        have hy := hf2.tl.hd
        have hxy : (x :: y :: rest).flatten = x ++ (y ++ rest.flatten) := by simp
        rw [hxy] at hS hp hpl2 hlL4
        rw [List.length_append, List.length_append] at hpl2
        repeat (first | refine SemW.run tblOk ?_ | refine IntG.nw (by omega) ?_ | refine IntG.nu8 (by omega) ?_ | refine IntG.nu32 (by omega) ?_ | refine IntG.nu64 (by omega) ?_ | refine IntG.wr' rfl ?_ | refine Chk.mk (by omega) ?_ | (refine BrG.id ?_; first | with_reducible refine BrG.t ?_ | with_reducible refine BrG.f ?_ | with_reducible refine BrG.notG ?_ | with_reducible refine BrG.nn ?_ | with_reducible refine BrG.ns ?_ | refine BrG.pos (by omega) ?_ | refine BrG.neg (by omega) ?_ | with_reducible refine BrG.pos rfl ?_ | refine BrG.pos (by assumption) ?_ | refine BrG.neg (by assumption) ?_ | refine BrG.pos (by decide) ?_ | refine BrG.neg (by decide) ?_) | refine Chk.mk (ptr_ok tblOk rfl rfl) ?_ | refine Chk.mk (by decide) ?_)
        refine (merge_api_File hO hcm hlen _ hS.holds (P := b1.flatten) (A := x) (B := y) (S := rest.flatten ++ r) (by simp only [List.append_assoc]) hlL4 (by omega) (by omega) (by omega) hx.2 hy.2 (by omega) (by omega) (Nat.le_refl _)).mono ?_
        rintro _ w5 ⟨M, p1, s1, hS'⟩
        have hS := hS.call1 hS'
        have e1 : (b1 ++ [M]).flatten = b1.flatten ++ M := by simp
        have hMl := p1.length_eq
        rw [List.length_append] at hMl
        have e2 : (b1 ++ [M]).flatten.length = q + 2 * n := by rw [e1, List.length_append]; omega
        repeat (first | refine SemW.run tblOk ?_ | refine IntG.nw (by omega) ?_ | refine IntG.nu8 (by omega) ?_ | refine IntG.nu32 (by omega) ?_ | refine IntG.nu64 (by omega) ?_ | refine IntG.wr' rfl ?_ | refine Chk.mk (by omega) ?_ | (refine BrG.id ?_; first | with_reducible refine BrG.t ?_ | with_reducible refine BrG.f ?_ | with_reducible refine BrG.notG ?_ | with_reducible refine BrG.nn ?_ | with_reducible refine BrG.ns ?_ | refine BrG.pos (by omega) ?_ | refine BrG.neg (by omega) ?_ | with_reducible refine BrG.pos rfl ?_ | refine BrG.pos (by assumption) ?_ | refine BrG.neg (by assumption) ?_ | refine BrG.pos (by decide) ?_ | refine BrG.neg (by decide) ?_) | refine Chk.mk (ptr_ok tblOk rfl rfl) ?_ | refine Chk.mk (by decide) ?_)
        refine ⟨(b1 ++ [M], rest), ⟨rfl, rfl, rfl, rfl, by show _ = Value.int .i64 _; congr 1; simp only; omega, by show _ = Value.int .i64 _; congr 1; simp only; omega, trivial⟩, ⟨⟨?_, hf1.snoc (by omega) s1, hf2.tl.tl⟩, ?_⟩, by simp only [List.length_cons]; omega⟩
        · simp only [e1]
          refine List.Perm.trans ?_ hp
          rw [List.append_assoc, List.append_assoc, List.append_assoc b1.flatten]
          refine List.Perm.append_left _ ?_
          refine (p1.append_right _).trans (List.Perm.of_eq ?_)
          simp only [List.append_assoc]
        · simp only [e1]
          rw [List.append_assoc (b1.flatten ++ M)]
          exact hS
      | [x], hf2, hpl2, hp, hS, hlL4 =>
        have hx := hf2.hd
        have hxy : [x].flatten = x := by simp
        rw [hxy] at hS hp hpl2 hlL4
        by_cases hr0 : 0 < r.length
        · repeat (first | refine SemW.run tblOk ?_ | refine IntG.nw (by omega) ?_ | refine IntG.nu8 (by omega) ?_ | refine IntG.nu32 (by omega) ?_ | refine IntG.nu64 (by omega) ?_ | refine IntG.wr' rfl ?_ | refine Chk.mk (by omega) ?_ | (refine BrG.id ?_; first | with_reducible refine BrG.t ?_ | with_reducible refine BrG.f ?_ | with_reducible refine BrG.notG ?_ | with_reducible refine BrG.nn ?_ | with_reducible refine BrG.ns ?_ | refine BrG.pos (by omega) ?_ | refine BrG.neg (by omega) ?_ | with_reducible refine BrG.pos rfl ?_ | refine BrG.pos (by assumption) ?_ | refine BrG.neg (by assumption) ?_ | refine BrG.pos (by decide) ?_ | refine BrG.neg (by decide) ?_) | refine Chk.mk (ptr_ok tblOk rfl rfl) ?_ | refine Chk.mk (by decide) ?_)
          refine (merge_api_File hO hcm hlen _ hS.holds (P := b1.flatten) (A := x) (B := r) (S := []) (by rw [List.append_nil]) hlL4 (by omega) (by omega) (by omega) hx.2 hsr (by omega) (by omega) (Nat.le_refl _)).mono ?_
          rintro _ w5 ⟨M, p1, s1, hS'⟩
          have hS := hS.call1 hS'
          rw [List.append_nil] at hS
          have hMl := p1.length_eq
          rw [List.length_append] at hMl
          repeat (first | refine SemW.run tblOk ?_ | refine IntG.nw (by omega) ?_ | refine IntG.nu8 (by omega) ?_ | refine IntG.nu32 (by omega) ?_ | refine IntG.nu64 (by omega) ?_ | refine IntG.wr' rfl ?_ | refine Chk.mk (by omega) ?_ | (refine BrG.id ?_; first | with_reducible refine BrG.t ?_ | with_reducible refine BrG.f ?_ | with_reducible refine BrG.notG ?_ | with_reducible refine BrG.nn ?_ | with_reducible refine BrG.ns ?_ | refine BrG.pos (by omega) ?_ | refine BrG.neg (by omega) ?_ | with_reducible refine BrG.pos rfl ?_ | refine BrG.pos (by assumption) ?_ | refine BrG.neg (by assumption) ?_ | refine BrG.pos (by decide) ?_ | refine BrG.neg (by decide) ?_) | refine Chk.mk (ptr_ok tblOk rfl rfl) ?_ | refine Chk.mk (by decide) ?_)
          refine ⟨⟨b1.flatten ++ M, n * 2⟩, ⟨rfl, rfl, rfl, rfl, trivial⟩, ⟨⟨?_, ⟨b1, M, rfl, by rw [Nat.mul_comm]; exact hf1, by simp only; omega, s1⟩, by simp only; omega⟩, hS⟩, by simp only; omega⟩
          refine List.Perm.trans ?_ hp
          rw [List.append_assoc]
          exact p1.append_left _
        · repeat (first | refine SemW.run tblOk ?_ | refine IntG.nw (by omega) ?_ | refine IntG.nu8 (by omega) ?_ | refine IntG.nu32 (by omega) ?_ | refine IntG.nu64 (by omega) ?_ | refine IntG.wr' rfl ?_ | refine Chk.mk (by omega) ?_ | (refine BrG.id ?_; first | with_reducible refine BrG.t ?_ | with_reducible refine BrG.f ?_ | with_reducible refine BrG.notG ?_ | with_reducible refine BrG.nn ?_ | with_reducible refine BrG.ns ?_ | refine BrG.pos (by omega) ?_ | refine BrG.neg (by omega) ?_ | with_reducible refine BrG.pos rfl ?_ | refine BrG.pos (by assumption) ?_ | refine BrG.neg (by assumption) ?_ | refine BrG.pos (by decide) ?_ | refine BrG.neg (by decide) ?_) | refine Chk.mk (ptr_ok tblOk rfl rfl) ?_ | refine Chk.mk (by decide) ?_)
          have hr1 : r = [] := List.length_eq_zero_iff.1 (by omega)
          rw [hr1, List.append_nil] at hS hp
          refine ⟨⟨b1.flatten ++ x, n * 2⟩, ⟨rfl, rfl, rfl, rfl, trivial⟩, ⟨⟨hp, ⟨b1, x, rfl, by rw [Nat.mul_comm]; exact hf1, by simp only; omega, hx.2⟩, by simp only; omega⟩, hS⟩, by simp only; omega⟩
      | [], hf2, hpl2, hp, hS, hlL4 =>
        rw [List.flatten_nil, List.append_nil] at hS hp hlL4
        rw [List.flatten_nil, List.length_nil] at hpl2
        repeat (first | refine SemW.run tblOk ?_ | refine IntG.nw (by omega) ?_ | refine IntG.nu8 (by omega) ?_ | refine IntG.nu32 (by omega) ?_ | refine IntG.nu64 (by omega) ?_ | refine IntG.wr' rfl ?_ | refine Chk.mk (by omega) ?_ | (refine BrG.id ?_; first | with_reducible refine BrG.t ?_ | with_reducible refine BrG.f ?_ | with_reducible refine BrG.notG ?_ | with_reducible refine BrG.nn ?_ | with_reducible refine BrG.ns ?_ | refine BrG.pos (by omega) ?_ | refine BrG.neg (by omega) ?_ | with_reducible refine BrG.pos rfl ?_ | refine BrG.pos (by assumption) ?_ | refine BrG.neg (by assumption) ?_ | refine BrG.pos (by decide) ?_ | refine BrG.neg (by decide) ?_) | refine Chk.mk (ptr_ok tblOk rfl rfl) ?_ | refine Chk.mk (by decide) ?_)
        refine ⟨⟨b1.flatten ++ r, n * 2⟩, ⟨rfl, rfl, rfl, rfl, trivial⟩, ⟨⟨hp, ⟨b1, r, rfl, by rw [Nat.mul_comm]; exact hf1, by simp only; omega, hsr⟩, by simp only; omega⟩, hS⟩, by simp only; omega⟩
    · repeat (first | refine SemW.run tblOk ?_ | refine IntG.nw (by omega) ?_ | refine IntG.nu8 (by omega) ?_ | refine IntG.nu32 (by omega) ?_ | refine IntG.nu64 (by omega) ?_ | refine IntG.wr' rfl ?_ | refine Chk.mk (by omega) ?_ | (refine BrG.id ?_; first | with_reducible refine BrG.t ?_ | with_reducible refine BrG.f ?_ | with_reducible refine BrG.notG ?_ | with_reducible refine BrG.nn ?_ | with_reducible refine BrG.ns ?_ | refine BrG.pos (by omega) ?_ | refine BrG.neg (by omega) ?_ | with_reducible refine BrG.pos rfl ?_ | refine BrG.pos (by assumption) ?_ | refine BrG.neg (by assumption) ?_ | refine BrG.pos (by decide) ?_ | refine BrG.neg (by decide) ?_) | refine Chk.mk (ptr_ok tblOk rfl rfl) ?_ | refine Chk.mk (by decide) ?_)
      refine ⟨l2, hp, hc.all (by omega), hS⟩
theorem sortStable_api_File {fc : FuncId} {cm : FileM → FileM → Int} (hO : Ord fun x y => decide (cm x y < 0)) (hcm : ∀ (x y : FileM) (w : World), Cl Tryd.prog fc [fileV x, fileV y] w fun v w' => v = .int .i64 (cm x y) ∧ St w [] [] w') {w : World} {g cap len : Nat} {l : List FileM} {tail : List Value} (hh : Holds [(g, .cells ⟨l.flatMap fileC ++ tail⟩ T_api_File (0, 0))] w) (hlL : l.length = len) (hlen : len ≤ 16777216) :
    Cl Tryd.prog f_slices_SortStableFunc_api_File_api_File [.slice (some ⟨g, 0, none⟩) len cap, .func (.func fc) ⟨[]⟩ ⟨[]⟩] w fun _ w' => ∃ l', l'.Perm l ∧ Srt (fun x y => decide (cm x y < 0)) l' ∧ St w [g] [(g, .cells ⟨l'.flatMap fileC ++ tail⟩ T_api_File (0, 0))] w' := by
  refine en_slices_SortStableFunc_api_File_api_File rfl ?_
  repeat (first | refine SemW.run tblOk ?_ | refine IntG.nw (by omega) ?_ | refine IntG.nu8 (by omega) ?_ | refine IntG.nu32 (by omega) ?_ | refine IntG.nu64 (by omega) ?_ | refine IntG.wr' rfl ?_ | refine Chk.mk (by omega) ?_ | (refine BrG.id ?_; first | with_reducible refine BrG.t ?_ | with_reducible refine BrG.f ?_ | with_reducible refine BrG.notG ?_ | with_reducible refine BrG.nn ?_ | with_reducible refine BrG.ns ?_ | refine BrG.pos (by omega) ?_ | refine BrG.neg (by omega) ?_ | with_reducible refine BrG.pos rfl ?_ | refine BrG.pos (by assumption) ?_ | refine BrG.neg (by assumption) ?_ | refine BrG.pos (by decide) ?_ | refine BrG.neg (by decide) ?_) | refine Chk.mk (ptr_ok tblOk rfl rfl) ?_ | refine Chk.mk (by decide) ?_)
  refine (stable_api_File hO hcm hh hlL hlen).mono ?_
  intro _ w' h
  repeat (first | refine SemW.run tblOk ?_ | refine IntG.nw (by omega) ?_ | refine IntG.nu8 (by omega) ?_ | refine IntG.nu32 (by omega) ?_ | refine IntG.nu64 (by omega) ?_ | refine IntG.wr' rfl ?_ | refine Chk.mk (by omega) ?_ | (refine BrG.id ?_; first | with_reducible refine BrG.t ?_ | with_reducible refine BrG.f ?_ | with_reducible refine BrG.notG ?_ | with_reducible refine BrG.nn ?_ | with_reducible refine BrG.ns ?_ | refine BrG.pos (by omega) ?_ | refine BrG.neg (by omega) ?_ | with_reducible refine BrG.pos rfl ?_ | refine BrG.pos (by assumption) ?_ | refine BrG.neg (by assumption) ?_ | refine BrG.pos (by decide) ?_ | refine BrG.neg (by decide) ?_) | refine Chk.mk (ptr_ok tblOk rfl rfl) ?_ | refine Chk.mk (by decide) ?_)
  exact h
theorem insertNil_api_File {w : World} {F : Value} : Cl Tryd.prog f_slices_insertionSortCmpFunc_api_File [.slice none 0 0, .int .i64 0, .int .i64 0, F] w fun _ w' => St w [] [] w' := by
  have hS := St.start w
  refine en_slices_insertionSortCmpFunc_api_File rfl ?_
  repeat (first | refine SemW.run tblOk ?_ | refine IntG.nw (by omega) ?_ | refine IntG.nu8 (by omega) ?_ | refine IntG.nu32 (by omega) ?_ | refine IntG.nu64 (by omega) ?_ | refine IntG.wr' rfl ?_ | refine Chk.mk (by omega) ?_ | (refine BrG.id ?_; first | with_reducible refine BrG.t ?_ | with_reducible refine BrG.f ?_ | with_reducible refine BrG.notG ?_ | with_reducible refine BrG.nn ?_ | with_reducible refine BrG.ns ?_ | refine BrG.pos (by omega) ?_ | refine BrG.neg (by omega) ?_ | with_reducible refine BrG.pos rfl ?_ | refine BrG.pos (by assumption) ?_ | refine BrG.neg (by assumption) ?_ | refine BrG.pos (by decide) ?_ | refine BrG.neg (by decide) ?_) | refine Chk.mk (ptr_ok tblOk rfl rfl) ?_ | refine Chk.mk (by decide) ?_)
  refine SemW.loop (fun _ : Unit => [(2, .int .i64 0), (8, .int .i64 1)]) (fun _ w' => St w [] [] w') (fun _ => 0) () ⟨rfl, rfl, trivial⟩ hS ?_
  clear hS
  intro _ w1 hS
  repeat (first | refine SemW.run tblOk ?_ | refine IntG.nw (by omega) ?_ | refine IntG.nu8 (by omega) ?_ | refine IntG.nu32 (by omega) ?_ | refine IntG.nu64 (by omega) ?_ | refine IntG.wr' rfl ?_ | refine Chk.mk (by omega) ?_ | (refine BrG.id ?_; first | with_reducible refine BrG.t ?_ | with_reducible refine BrG.f ?_ | with_reducible refine BrG.notG ?_ | with_reducible refine BrG.nn ?_ | with_reducible refine BrG.ns ?_ | refine BrG.pos (by omega) ?_ | refine BrG.neg (by omega) ?_ | with_reducible refine BrG.pos rfl ?_ | refine BrG.pos (by assumption) ?_ | refine BrG.neg (by assumption) ?_ | refine BrG.pos (by decide) ?_ | refine BrG.neg (by decide) ?_) | refine Chk.mk (ptr_ok tblOk rfl rfl) ?_ | refine Chk.mk (by decide) ?_)
  exact hS
theorem stableNil_api_File {w : World} {F : Value} : Cl Tryd.prog f_slices_stableCmpFunc_api_File [.slice none 0 0, .int .i64 0, F] w fun _ w' => St w [] [] w' := by
  have hS := St.start w
  refine en_slices_stableCmpFunc_api_File rfl ?_
  repeat (first | refine SemW.run tblOk ?_ | refine IntG.nw (by omega) ?_ | refine IntG.nu8 (by omega) ?_ | refine IntG.nu32 (by omega) ?_ | refine IntG.nu64 (by omega) ?_ | refine IntG.wr' rfl ?_ | refine Chk.mk (by omega) ?_ | (refine BrG.id ?_; first | with_reducible refine BrG.t ?_ | with_reducible refine BrG.f ?_ | with_reducible refine BrG.notG ?_ | with_reducible refine BrG.nn ?_ | with_reducible refine BrG.ns ?_ | refine BrG.pos (by omega) ?_ | refine BrG.neg (by omega) ?_ | with_reducible refine BrG.pos rfl ?_ | refine BrG.pos (by assumption) ?_ | refine BrG.neg (by assumption) ?_ | refine BrG.pos (by decide) ?_ | refine BrG.neg (by decide) ?_) | refine Chk.mk (ptr_ok tblOk rfl rfl) ?_ | refine Chk.mk (by decide) ?_)
  refine SemW.loop (fun _ : Unit => [(0, .slice none 0 0), (1, .int .i64 0), (2, F), (6, .int .i64 20), (7, .int .i64 0), (8, .int .i64 20)]) (fun _ w' => St w [] [] w') (fun _ => 0) () ⟨rfl, rfl, rfl, rfl, rfl, rfl, trivial⟩ hS ?_
  clear hS
  intro _ w1 hS
  repeat (first | refine SemW.run tblOk ?_ | refine IntG.nw (by omega) ?_ | refine IntG.nu8 (by omega) ?_ | refine IntG.nu32 (by omega) ?_ | refine IntG.nu64 (by omega) ?_ | refine IntG.wr' rfl ?_ | refine Chk.mk (by omega) ?_ | (refine BrG.id ?_; first | with_reducible refine BrG.t ?_ | with_reducible refine BrG.f ?_ | with_reducible refine BrG.notG ?_ | with_reducible refine BrG.nn ?_ | with_reducible refine BrG.ns ?_ | refine BrG.pos (by omega) ?_ | refine BrG.neg (by omega) ?_ | with_reducible refine BrG.pos rfl ?_ | refine BrG.pos (by assumption) ?_ | refine BrG.neg (by assumption) ?_ | refine BrG.pos (by decide) ?_ | refine BrG.neg (by decide) ?_) | refine Chk.mk (ptr_ok tblOk rfl rfl) ?_ | refine Chk.mk (by decide) ?_)
  refine insertNil_api_File.mono ?_
  intro _ w2 hS'
  have hS := hS.call0 hS'
  repeat (first | refine SemW.run tblOk ?_ | refine IntG.nw (by omega) ?_ | refine IntG.nu8 (by omega) ?_ | refine IntG.nu32 (by omega) ?_ | refine IntG.nu64 (by omega) ?_ | refine IntG.wr' rfl ?_ | refine Chk.mk (by omega) ?_ | (refine BrG.id ?_; first | with_reducible refine BrG.t ?_ | with_reducible refine BrG.f ?_ | with_reducible refine BrG.notG ?_ | with_reducible refine BrG.nn ?_ | with_reducible refine BrG.ns ?_ | refine BrG.pos (by omega) ?_ | refine BrG.neg (by omega) ?_ | with_reducible refine BrG.pos rfl ?_ | refine BrG.pos (by assumption) ?_ | refine BrG.neg (by assumption) ?_ | refine BrG.pos (by decide) ?_ | refine BrG.neg (by decide) ?_) | refine Chk.mk (ptr_ok tblOk rfl rfl) ?_ | refine Chk.mk (by decide) ?_)
  refine SemW.loop (fun _ : Unit => [(1, .int .i64 0), (6, .int .i64 20)]) (fun _ w' => St w [] [] w') (fun _ => 0) () ⟨rfl, rfl, trivial⟩ hS ?_
  clear hS
  intro _ w3 hS
  repeat (first | refine SemW.run tblOk ?_ | refine IntG.nw (by omega) ?_ | refine IntG.nu8 (by omega) ?_ | refine IntG.nu32 (by omega) ?_ | refine IntG.nu64 (by omega) ?_ | refine IntG.wr' rfl ?_ | refine Chk.mk (by omega) ?_ | (refine BrG.id ?_; first | with_reducible refine BrG.t ?_ | with_reducible refine BrG.f ?_ | with_reducible refine BrG.notG ?_ | with_reducible refine BrG.nn ?_ | with_reducible refine BrG.ns ?_ | refine BrG.pos (by omega) ?_ | refine BrG.neg (by omega) ?_ | with_reducible refine BrG.pos rfl ?_ | refine BrG.pos (by assumption) ?_ | refine BrG.neg (by assumption) ?_ | refine BrG.pos (by decide) ?_ | refine BrG.neg (by decide) ?_) | refine Chk.mk (ptr_ok tblOk rfl rfl) ?_ | refine Chk.mk (by decide) ?_)
  exact hS
theorem sortNil_api_File {w : World} {F : Value} : Cl Tryd.prog f_slices_SortStableFunc_api_File_api_File [.slice none 0 0, F] w fun _ w' => St w [] [] w' := by
  refine en_slices_SortStableFunc_api_File_api_File rfl ?_
  repeat (first | refine SemW.run tblOk ?_ | refine IntG.nw (by omega) ?_ | refine IntG.nu8 (by omega) ?_ | refine IntG.nu32 (by omega) ?_ | refine IntG.nu64 (by omega) ?_ | refine IntG.wr' rfl ?_ | refine Chk.mk (by omega) ?_ | (refine BrG.id ?_; first | with_reducible refine BrG.t ?_ | with_reducible refine BrG.f ?_ | with_reducible refine BrG.notG ?_ | with_reducible refine BrG.nn ?_ | with_reducible refine BrG.ns ?_ | refine BrG.pos (by omega) ?_ | refine BrG.neg (by omega) ?_ | with_reducible refine BrG.pos rfl ?_ | refine BrG.pos (by assumption) ?_ | refine BrG.neg (by assumption) ?_ | refine BrG.pos (by decide) ?_ | refine BrG.neg (by decide) ?_) | refine Chk.mk (ptr_ok tblOk rfl rfl) ?_ | refine Chk.mk (by decide) ?_)
  refine stableNil_api_File.mono ?_
  intro _ w' h
  repeat (first | refine SemW.run tblOk ?_ | refine IntG.nw (by omega) ?_ | refine IntG.nu8 (by omega) ?_ | refine IntG.nu32 (by omega) ?_ | refine IntG.nu64 (by omega) ?_ | refine IntG.wr' rfl ?_ | refine Chk.mk (by omega) ?_ | (refine BrG.id ?_; first | with_reducible refine BrG.t ?_ | with_reducible refine BrG.f ?_ | with_reducible refine BrG.notG ?_ | with_reducible refine BrG.nn ?_ | with_reducible refine BrG.ns ?_ | refine BrG.pos (by omega) ?_ | refine BrG.neg (by omega) ?_ | with_reducible refine BrG.pos rfl ?_ | refine BrG.pos (by assumption) ?_ | refine BrG.neg (by assumption) ?_ | refine BrG.pos (by decide) ?_ | refine BrG.neg (by decide) ?_) | refine Chk.mk (ptr_ok tblOk rfl rfl) ?_ | refine Chk.mk (by decide) ?_)
  exact h
end Go.Proofs.YtkncpdehgcldbaaDoor
