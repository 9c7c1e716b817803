/- Merging two stretches in place. -/
import Derived.Test.YtkncpdehgcldbaaDoorSortM
namespace Go.Proofs.YtkncpdehgcldbaaDoor
open Go Go.Eng Go.Proofs Go.Srt
set_option maxRecDepth 4000 in
set_option maxHeartbeats 16000000 in
theorem merge_api_File {fc : FuncId} {cm : FileM → FileM → Int} (hO : Ord fun x y => decide (cm x y < 0)) (hcm : ∀ (x y : FileM) (w : World), Cl Tryd.prog fc [fileV x, fileV y] w fun v w' => v = .int .i64 (cm x y) ∧ St w [] [] w') {g cap len : Nat} {tail : List Value} (hlen : len ≤ 16777216) : ∀ (N : Nat) {w : World} {a m b : Int} {l P A B S : List FileM}, Holds [(g, .cells ⟨l.flatMap fileC ++ tail⟩ T_api_File (0, 0))] w → l = P ++ A ++ B ++ S → l.length = len → a = P.length → m = P.length + A.length → b = P.length + A.length + B.length → Srt (fun x y => decide (cm x y < 0)) A → Srt (fun x y => decide (cm x y < 0)) B → 1 ≤ A.length → 1 ≤ B.length → A.length + B.length ≤ N →
    Cl Tryd.prog f_slices_symMergeCmpFunc_api_File [.slice (some ⟨g, 0, none⟩) len cap, .int .i64 a, .int .i64 m, .int .i64 b, .func (.func fc) ⟨[]⟩ ⟨[]⟩] w fun _ w' => ∃ M', M'.Perm (A ++ B) ∧ Srt (fun x y => decide (cm x y < 0)) M' ∧ St w [g] [(g, .cells ⟨(P ++ M' ++ S).flatMap fileC ++ tail⟩ T_api_File (0, 0))] w' := by
  intro N
  induction N with
  | zero => intro w a m b l P A B S hh hl hlL ha hm hb hA hB hA1 hB1 hN; omega
  | succ N ih =>
  intro w a m b l P A B S hh hl hlL ha hm hb hA hB hA1 hB1 hN
  by_cases c1 : A.length = 1
  · obtain ⟨x, rfl⟩ := List.length_eq_one_iff.1 c1
    rw [List.length_singleton] at hm hb
    exact merge1_api_File hO hcm hh (by rw [hl]; simp) hlL hlen ha hm hb hB
  by_cases c2 : B.length = 1
  · obtain ⟨y, rfl⟩ := List.length_eq_one_iff.1 c2
    rw [List.length_singleton] at hb
    exact merge2_api_File hO hcm hh (by rw [hl]; simp) hlL hlen ha hm hb hA (by omega)
  have hS : St w [g] [(g, .cells ⟨l.flatMap fileC ++ tail⟩ T_api_File (0, 0))] w := St.enter hh
  have hll : len = P.length + A.length + B.length + S.length := by rw [← hlL, hl]; simp only [List.length_append]
  have hat1 : ∀ c (hc : c < A.length) (h : P.length + c < (P ++ A ++ B ++ S).length), (P ++ A ++ B ++ S)[P.length + c] = A[c] := by
    intro c hc h
    have e5 : (P ++ A ++ B ++ S)[P.length + c]? = some A[c] := by
      rw [List.append_assoc, List.append_assoc, List.getElem?_append_right (by omega), show P.length + c - P.length = c by omega, List.getElem?_append_left hc, List.getElem?_eq_getElem hc]
    rw [List.getElem?_eq_getElem h, Option.some.injEq] at e5
    exact e5
  have hat2 : ∀ c (hc : c < B.length) (h : P.length + A.length + c < (P ++ A ++ B ++ S).length), (P ++ A ++ B ++ S)[P.length + A.length + c] = B[c] := by
    intro c hc h
    have hPA : (P ++ A).length = P.length + A.length := List.length_append
    have e5 : (P ++ A ++ B ++ S)[P.length + A.length + c]? = some B[c] := by
      rw [List.append_assoc (P ++ A), List.getElem?_append_right (by omega), hPA, show P.length + A.length + c - (P.length + A.length) = c by omega, List.getElem?_append_left hc, List.getElem?_eq_getElem hc]
    rw [List.getElem?_eq_getElem h, Option.some.injEq] at e5
    exact e5
  subst hl
  obtain ⟨d, hd⟩ : ∃ d, d = (A.length + B.length) / 2 := ⟨_, rfl⟩
  -- the search: s0, r0 are its ends, counted from a
  obtain ⟨s0, r0, hsr⟩ : ∃ s0 r0 : Nat, (d < A.length → s0 = d + A.length - (A.length + B.length) ∧ r0 = d) ∧ (A.length ≤ d → s0 = 0 ∧ r0 = A.length) := by
    by_cases h : d < A.length
    · exact ⟨d + A.length - (A.length + B.length), d, fun _ => ⟨rfl, rfl⟩, fun h' => absurd h' (by omega)⟩
    · exact ⟨0, A.length, fun h' => absurd h' h, fun _ => ⟨rfl, rfl⟩⟩
  refine en_slices_symMergeCmpFunc_api_File rfl ?_
  repeat (first | refine SemW.run tblOk ?_ | refine IntG.nw (by omega) ?_ | refine IntG.nu8 (by omega) ?_ | refine IntG.nu32 (by omega) ?_ | refine IntG.nu64 (by omega) ?_ | refine IntG.wr' rfl ?_ | refine Chk.mk (by omega) ?_ | (refine BrG.id ?_; first | with_reducible refine BrG.t ?_ | with_reducible refine BrG.f ?_ | with_reducible refine BrG.notG ?_ | with_reducible refine BrG.nn ?_ | with_reducible refine BrG.ns ?_ | refine BrG.pos (by omega) ?_ | refine BrG.neg (by omega) ?_ | with_reducible refine BrG.pos rfl ?_ | refine BrG.pos (by assumption) ?_ | refine BrG.neg (by assumption) ?_ | refine BrG.pos (by decide) ?_ | refine BrG.neg (by decide) ?_) | refine Chk.mk (ptr_ok tblOk rfl rfl) ?_ | refine Chk.mk (by decide) ?_)
  refine IntG.half (r := a + d) (by omega) (by omega) ?_
  repeat (first | refine SemW.run tblOk ?_ | refine IntG.nw (by omega) ?_ | refine IntG.nu8 (by omega) ?_ | refine IntG.nu32 (by omega) ?_ | refine IntG.nu64 (by omega) ?_ | refine IntG.wr' rfl ?_ | refine Chk.mk (by omega) ?_ | (refine BrG.id ?_; first | with_reducible refine BrG.t ?_ | with_reducible refine BrG.f ?_ | with_reducible refine BrG.notG ?_ | with_reducible refine BrG.nn ?_ | with_reducible refine BrG.ns ?_ | refine BrG.pos (by omega) ?_ | refine BrG.neg (by omega) ?_ | with_reducible refine BrG.pos rfl ?_ | refine BrG.pos (by assumption) ?_ | refine BrG.neg (by assumption) ?_ | refine BrG.pos (by decide) ?_ | refine BrG.neg (by decide) ?_) | refine Chk.mk (ptr_ok tblOk rfl rfl) ?_ | refine Chk.mk (by decide) ?_)
  by_cases hdA : d < A.length
  all_goals
    have hs0 : s0 ≤ r0 ∧ r0 ≤ d ∧ r0 ≤ A.length ∧ d - s0 ≤ B.length := by omega
    repeat (first | refine SemW.run tblOk ?_ | refine IntG.nw (by omega) ?_ | refine IntG.nu8 (by omega) ?_ | refine IntG.nu32 (by omega) ?_ | refine IntG.nu64 (by omega) ?_ | refine IntG.wr' rfl ?_ | refine Chk.mk (by omega) ?_ | (refine BrG.id ?_; first | with_reducible refine BrG.t ?_ | with_reducible refine BrG.f ?_ | with_reducible refine BrG.notG ?_ | with_reducible refine BrG.nn ?_ | with_reducible refine BrG.ns ?_ | refine BrG.pos (by omega) ?_ | refine BrG.neg (by omega) ?_ | with_reducible refine BrG.pos rfl ?_ | refine BrG.pos (by assumption) ?_ | refine BrG.neg (by assumption) ?_ | refine BrG.pos (by decide) ?_ | refine BrG.neg (by decide) ?_) | refine Chk.mk (ptr_ok tblOk rfl rfl) ?_ | refine Chk.mk (by decide) ?_)
    refine SemW.loop (fun z : Nat × Nat => [(0, .slice (some ⟨g, 0, none⟩) len cap), (1, .int .i64 a), (2, .int .i64 m), (3, .int .i64 b), (4, .func (.func fc) ⟨[]⟩ ⟨[]⟩), (18, .int .i64 (a + d)), (19, .int .i64 (a + d + m)), (20, .int .i64 (a + z.1)), (21, .int .i64 (a + z.2)), (22, .int .i64 (a + d + m - 1))])
      (fun z w' => (s0 ≤ z.1 ∧ z.1 ≤ z.2 ∧ z.2 ≤ r0 ∧ EdgeL (fun x y => decide (cm x y < 0)) A B d z.1 s0 ∧ EdgeR (fun x y => decide (cm x y < 0)) A B d z.2 r0) ∧ St w [g] [(g, .cells ⟨(P ++ A ++ B ++ S).flatMap fileC ++ tail⟩ T_api_File (0, 0))] w') (fun z => z.2 - z.1) (s0, r0)
      ⟨rfl, rfl, rfl, rfl, rfl, rfl, rfl, by show _ = Value.int .i64 _; congr 1; simp only; omega, by show _ = Value.int .i64 _; congr 1; simp only; omega, rfl, trivial⟩ ⟨⟨Nat.le_refl _, hs0.1, Nat.le_refl _, .inl rfl, .inl rfl⟩, hS⟩ ?_
    clear hS
    rintro ⟨s, r⟩ w1 ⟨⟨q1, q2, q3, E1, E2⟩, hS⟩
    simp only at q1 q2 q3 E1 E2 hS ⊢
    by_cases hlt : s < r
    · repeat (first | refine SemW.run tblOk ?_ | refine IntG.nw (by omega) ?_ | refine IntG.nu8 (by omega) ?_ | refine IntG.nu32 (by omega) ?_ | refine IntG.nu64 (by omega) ?_ | refine IntG.wr' rfl ?_ | refine Chk.mk (by omega) ?_ | (refine BrG.id ?_; first | with_reducible refine BrG.t ?_ | with_reducible refine BrG.f ?_ | with_reducible refine BrG.notG ?_ | with_reducible refine BrG.nn ?_ | with_reducible refine BrG.ns ?_ | refine BrG.pos (by omega) ?_ | refine BrG.neg (by omega) ?_ | with_reducible refine BrG.pos rfl ?_ | refine BrG.pos (by assumption) ?_ | refine BrG.neg (by assumption) ?_ | refine BrG.pos (by decide) ?_ | refine BrG.neg (by decide) ?_) | refine Chk.mk (ptr_ok tblOk rfl rfl) ?_ | refine Chk.mk (by decide) ?_)
      obtain ⟨c, hc⟩ : ∃ c, c = (s + r) / 2 := ⟨_, rfl⟩
      have hcA : c < A.length := by omega
      have hcB : d - 1 - c < B.length := by omega
      have hi : P.length + A.length + (d - 1 - c) < (P ++ A ++ B ++ S).length := by omega
      have hj : P.length + c < (P ++ A ++ B ++ S).length := by omega
      have e1 := hat2 _ hcB hi
      have e2 := hat1 _ hcA hj
      refine IntG.half (r := a + c) (by omega) (by omega) ?_
      repeat (first | refine SemW.run tblOk ?_ | refine IntG.nw (by omega) ?_ | refine IntG.nu8 (by omega) ?_ | refine IntG.nu32 (by omega) ?_ | refine IntG.nu64 (by omega) ?_ | refine IntG.wr' rfl ?_ | refine Chk.mk (by omega) ?_ | (refine BrG.id ?_; first | with_reducible refine BrG.t ?_ | with_reducible refine BrG.f ?_ | with_reducible refine BrG.notG ?_ | with_reducible refine BrG.nn ?_ | with_reducible refine BrG.ns ?_ | refine BrG.pos (by omega) ?_ | refine BrG.neg (by omega) ?_ | with_reducible refine BrG.pos rfl ?_ | refine BrG.pos (by assumption) ?_ | refine BrG.neg (by assumption) ?_ | refine BrG.pos (by decide) ?_ | refine BrG.neg (by decide) ?_) | refine Chk.mk (ptr_ok tblOk rfl rfl) ?_ | refine Chk.mk (by decide) ?_)
      refine SemW.draw tblOk mixed (fun w' => St w [g] [(g, .cells ⟨(P ++ A ++ B ++ S).flatMap fileC ++ tail⟩ T_api_File (0, 0))] w') [11, 12, 13] [0, 1, 2, 3, 4, 5, 6, 7, 8, 9, 10, 11, 12, 13] (by kernel_rfl) hS.drew ?_
      have hS := hS.drew
      repeat (first | refine SemW.run tblOk ?_ | refine IntG.nw (by omega) ?_ | refine IntG.nu8 (by omega) ?_ | refine IntG.nu32 (by omega) ?_ | refine IntG.nu64 (by omega) ?_ | refine IntG.wr' rfl ?_ | refine Chk.mk (by omega) ?_ | (refine BrG.id ?_; first | with_reducible refine BrG.t ?_ | with_reducible refine BrG.f ?_ | with_reducible refine BrG.notG ?_ | with_reducible refine BrG.nn ?_ | with_reducible refine BrG.ns ?_ | refine BrG.pos (by omega) ?_ | refine BrG.neg (by omega) ?_ | with_reducible refine BrG.pos rfl ?_ | refine BrG.pos (by assumption) ?_ | refine BrG.neg (by assumption) ?_ | refine BrG.pos (by decide) ?_ | refine BrG.neg (by decide) ?_) | refine Chk.mk (ptr_ok tblOk rfl rfl) ?_ | refine Chk.mk (by decide) ?_ | refine hS.ldC rfl ?_ | refine hS.ldnC rfl ?_)
      refine St.ldEC (sz := 2) (cv := fileC) (fun _ => rfl) hS hi ?_ ?_
      · omega
      rw [e1]
      repeat (first | refine SemW.run tblOk ?_ | refine IntG.nw (by omega) ?_ | refine IntG.nu8 (by omega) ?_ | refine IntG.nu32 (by omega) ?_ | refine IntG.nu64 (by omega) ?_ | refine IntG.wr' rfl ?_ | refine Chk.mk (by omega) ?_ | (refine BrG.id ?_; first | with_reducible refine BrG.t ?_ | with_reducible refine BrG.f ?_ | with_reducible refine BrG.notG ?_ | with_reducible refine BrG.nn ?_ | with_reducible refine BrG.ns ?_ | refine BrG.pos (by omega) ?_ | refine BrG.neg (by omega) ?_ | with_reducible refine BrG.pos rfl ?_ | refine BrG.pos (by assumption) ?_ | refine BrG.neg (by assumption) ?_ | refine BrG.pos (by decide) ?_ | refine BrG.neg (by decide) ?_) | refine Chk.mk (ptr_ok tblOk rfl rfl) ?_ | refine Chk.mk (by decide) ?_ | refine hS.ldC rfl ?_ | refine hS.ldnC rfl ?_)
      refine St.ldEC (sz := 2) (cv := fileC) (fun _ => rfl) hS hj ?_ ?_
      · omega
      rw [e2]
      repeat (first | refine SemW.run tblOk ?_ | refine IntG.nw (by omega) ?_ | refine IntG.nu8 (by omega) ?_ | refine IntG.nu32 (by omega) ?_ | refine IntG.nu64 (by omega) ?_ | refine IntG.wr' rfl ?_ | refine Chk.mk (by omega) ?_ | (refine BrG.id ?_; first | with_reducible refine BrG.t ?_ | with_reducible refine BrG.f ?_ | with_reducible refine BrG.notG ?_ | with_reducible refine BrG.nn ?_ | with_reducible refine BrG.ns ?_ | refine BrG.pos (by omega) ?_ | refine BrG.neg (by omega) ?_ | with_reducible refine BrG.pos rfl ?_ | refine BrG.pos (by assumption) ?_ | refine BrG.neg (by assumption) ?_ | refine BrG.pos (by decide) ?_ | refine BrG.neg (by decide) ?_) | refine Chk.mk (ptr_ok tblOk rfl rfl) ?_ | refine Chk.mk (by decide) ?_ | refine hS.ldC rfl ?_ | refine hS.ldnC rfl ?_)
      refine (hcm B[d - 1 - c] A[c] _).mono ?_
      rintro _ w3 ⟨rfl, hS'⟩
      have hS := hS.call0 hS'
      by_cases hcc : cm B[d - 1 - c] A[c] < 0
      · repeat (first | refine SemW.run tblOk ?_ | refine IntG.nw (by omega) ?_ | refine IntG.nu8 (by omega) ?_ | refine IntG.nu32 (by omega) ?_ | refine IntG.nu64 (by omega) ?_ | refine IntG.wr' rfl ?_ | refine Chk.mk (by omega) ?_ | (refine BrG.id ?_; first | with_reducible refine BrG.t ?_ | with_reducible refine BrG.f ?_ | with_reducible refine BrG.notG ?_ | with_reducible refine BrG.nn ?_ | with_reducible refine BrG.ns ?_ | refine BrG.pos (by omega) ?_ | refine BrG.neg (by omega) ?_ | with_reducible refine BrG.pos rfl ?_ | refine BrG.pos (by assumption) ?_ | refine BrG.neg (by assumption) ?_ | refine BrG.pos (by decide) ?_ | refine BrG.neg (by decide) ?_) | refine Chk.mk (ptr_ok tblOk rfl rfl) ?_ | refine Chk.mk (by decide) ?_)
        refine ⟨(s, c), ⟨rfl, rfl, rfl, rfl, rfl, rfl, rfl, rfl, rfl, rfl, trivial⟩, ⟨⟨q1, by simp only; omega, by simp only; omega, E1, .inr ⟨A[c], B[d - 1 - c], List.getElem?_eq_getElem hcA, ?_, decide_eq_true hcc⟩⟩, hS⟩, by simp only; omega⟩
        rw [show d - c - 1 = d - 1 - c by omega]; exact List.getElem?_eq_getElem hcB
      · repeat (first | refine SemW.run tblOk ?_ | refine IntG.nw (by omega) ?_ | refine IntG.nu8 (by omega) ?_ | refine IntG.nu32 (by omega) ?_ | refine IntG.nu64 (by omega) ?_ | refine IntG.wr' rfl ?_ | refine Chk.mk (by omega) ?_ | (refine BrG.id ?_; first | with_reducible refine BrG.t ?_ | with_reducible refine BrG.f ?_ | with_reducible refine BrG.notG ?_ | with_reducible refine BrG.nn ?_ | with_reducible refine BrG.ns ?_ | refine BrG.pos (by omega) ?_ | refine BrG.neg (by omega) ?_ | with_reducible refine BrG.pos rfl ?_ | refine BrG.pos (by assumption) ?_ | refine BrG.neg (by assumption) ?_ | refine BrG.pos (by decide) ?_ | refine BrG.neg (by decide) ?_) | refine Chk.mk (ptr_ok tblOk rfl rfl) ?_ | refine Chk.mk (by decide) ?_)
        refine ⟨(c + 1, r), ⟨rfl, rfl, rfl, rfl, rfl, rfl, rfl, by show _ = Value.int .i64 _; congr 1; simp only; omega, rfl, rfl, trivial⟩, ⟨⟨by simp only; omega, by simp only; omega, q3, .inr ⟨A[c], B[d - 1 - c], ?_, ?_, decide_eq_false hcc⟩, E2⟩, hS⟩, by simp only; omega⟩
        · rw [Nat.add_sub_cancel]; exact List.getElem?_eq_getElem hcA
        · rw [show d - (c + 1) = d - 1 - c by omega]; exact List.getElem?_eq_getElem hcB
    · have hsr' : r = s := by omega
      subst hsr'
      obtain ⟨A1, A2, rfl, hA1'⟩ : ∃ A1 A2, A = A1 ++ A2 ∧ A1.length = r := ⟨A.take r, A.drop r, (List.take_append_drop _ _).symm, by rw [List.length_take]; omega⟩
      obtain ⟨B1, B2, rfl, hB1'⟩ : ∃ B1 B2, B = B1 ++ B2 ∧ B1.length = d - r := ⟨B.take (d - r), B.drop (d - r), (List.take_append_drop _ _).symm, by rw [List.length_take]; omega⟩
      have k1 : ∀ x y, A1.getLast? = some x → B2.head? = some y → decide (cm y x < 0) = false := by
        intro x y hx hy
        have hx0 : 0 < A1.length := by cases A1 with | nil => cases hx | cons => simp
        have hy0 : 0 < B2.length := by cases B2 with | nil => cases hy | cons => simp
        rw [List.length_append] at hs0 hsr
        rw [List.length_append] at hs0 hsr
        rcases E1 with h | ⟨x', y', h1, h2, h3⟩
        · omega
        · rw [List.getLast?_eq_getElem?] at hx
          rw [List.head?_eq_getElem?] at hy
          rw [List.getElem?_append_left (by omega), ← hA1', hx, Option.some.injEq] at h1
          rw [List.getElem?_append_right (by omega), hB1', Nat.sub_self, hy, Option.some.injEq] at h2
          subst h1 h2; exact h3
      have k2 : ∀ x y, B1.getLast? = some x → A2.head? = some y → decide (cm x y < 0) = true := by
        intro x y hx hy
        have hx0 : 0 < B1.length := by cases B1 with | nil => cases hx | cons => simp
        have hy0 : 0 < A2.length := by cases A2 with | nil => cases hy | cons => simp
        rw [List.length_append] at hs0 hsr
        rw [List.length_append] at hs0 hsr
        rcases E2 with h | ⟨x', y', h1, h2, h3⟩
        · omega
        · rw [List.getLast?_eq_getElem?] at hx
          rw [List.head?_eq_getElem?] at hy
          rw [List.getElem?_append_right (by omega), hA1', Nat.sub_self, hy, Option.some.injEq] at h1
          rw [List.getElem?_append_left (by omega), ← hB1', hx, Option.some.injEq] at h2
          subst h1 h2; exact h3
      have hsp := split_ok hO hA hB k1 k2
      clear k1 k2 E1 E2 hat1 hat2
      simp only [List.length_append] at hm hb hll hN hd hA1 hB1 hs0 hdA c1 c2
      clear hsr
      have hlL2 : (P ++ (A1 ++ B1) ++ (A2 ++ B2) ++ S).length = len := by simp only [List.length_append]; omega
      have hn1 : (P ++ A1).length = P.length + A1.length := List.length_append
      rcases Nat.eq_zero_or_pos A1.length with z1 | z1 <;> rcases Nat.eq_zero_or_pos A2.length with z2 | z2 <;> rcases Nat.eq_zero_or_pos B1.length with z3 | z3 <;> rcases Nat.eq_zero_or_pos B2.length with z4 | z4 <;> try (exfalso; omega)
      all_goals
        repeat (first | refine SemW.run tblOk ?_ | refine IntG.nw (by omega) ?_ | refine IntG.nu8 (by omega) ?_ | refine IntG.nu32 (by omega) ?_ | refine IntG.nu64 (by omega) ?_ | refine IntG.wr' rfl ?_ | refine Chk.mk (by omega) ?_ | (refine BrG.id ?_; first | with_reducible refine BrG.t ?_ | with_reducible refine BrG.f ?_ | with_reducible refine BrG.notG ?_ | with_reducible refine BrG.nn ?_ | with_reducible refine BrG.ns ?_ | refine BrG.pos (by omega) ?_ | refine BrG.neg (by omega) ?_ | with_reducible refine BrG.pos rfl ?_ | refine BrG.pos (by assumption) ?_ | refine BrG.neg (by assumption) ?_ | refine BrG.pos (by decide) ?_ | refine BrG.neg (by decide) ?_) | refine Chk.mk (ptr_ok tblOk rfl rfl) ?_ | refine Chk.mk (by decide) ?_)
        first
        | refine (rotate_api_File hS.holds (P := P ++ A1) (U := A2) (V := B1) (S := B2 ++ S) (by simp only [List.append_assoc]) hlL hlen (by omega) (by omega) (by omega) z2 z3).mono ?_
          intro _ w2 hS'
          have hS := hS.call1 hS'
          have e9 : P ++ A1 ++ B1 ++ A2 ++ (B2 ++ S) = P ++ (A1 ++ B1) ++ (A2 ++ B2) ++ S := by simp only [List.append_assoc]
          rw [e9] at hS
          repeat (first | refine SemW.run tblOk ?_ | refine IntG.nw (by omega) ?_ | refine IntG.nu8 (by omega) ?_ | refine IntG.nu32 (by omega) ?_ | refine IntG.nu64 (by omega) ?_ | refine IntG.wr' rfl ?_ | refine Chk.mk (by omega) ?_ | (refine BrG.id ?_; first | with_reducible refine BrG.t ?_ | with_reducible refine BrG.f ?_ | with_reducible refine BrG.notG ?_ | with_reducible refine BrG.nn ?_ | with_reducible refine BrG.ns ?_ | refine BrG.pos (by omega) ?_ | refine BrG.neg (by omega) ?_ | with_reducible refine BrG.pos rfl ?_ | refine BrG.pos (by assumption) ?_ | refine BrG.neg (by assumption) ?_ | refine BrG.pos (by decide) ?_ | refine BrG.neg (by decide) ?_) | refine Chk.mk (ptr_ok tblOk rfl rfl) ?_ | refine Chk.mk (by decide) ?_)
        | rw [noRot (by omega)] at hS
        first
        | refine (ih hS.holds (P := P) (A := A1) (B := B1) (S := (A2 ++ B2) ++ S) (by simp only [List.append_assoc]) hlL2 ha (by omega) (by omega) hA.left hB.left z1 z3 (by omega)).mono ?_
          rintro _ w3 ⟨L1, p1, s1, hS'⟩
          have hS := hS.call1 hS'
          rw [← List.append_assoc (P ++ L1) (A2 ++ B2) S] at hS
          repeat (first | refine SemW.run tblOk ?_ | refine IntG.nw (by omega) ?_ | refine IntG.nu8 (by omega) ?_ | refine IntG.nu32 (by omega) ?_ | refine IntG.nu64 (by omega) ?_ | refine IntG.wr' rfl ?_ | refine Chk.mk (by omega) ?_ | (refine BrG.id ?_; first | with_reducible refine BrG.t ?_ | with_reducible refine BrG.f ?_ | with_reducible refine BrG.notG ?_ | with_reducible refine BrG.nn ?_ | with_reducible refine BrG.ns ?_ | refine BrG.pos (by omega) ?_ | refine BrG.neg (by omega) ?_ | with_reducible refine BrG.pos rfl ?_ | refine BrG.pos (by assumption) ?_ | refine BrG.neg (by assumption) ?_ | refine BrG.pos (by decide) ?_ | refine BrG.neg (by decide) ?_) | refine Chk.mk (ptr_ok tblOk rfl rfl) ?_ | refine Chk.mk (by decide) ?_)
        | obtain ⟨L1, p1, s1, eL⟩ : ∃ L1, L1.Perm (A1 ++ B1) ∧ Srt (fun x y => decide (cm x y < 0)) L1 ∧ L1 = A1 ++ B1 := ⟨_, List.Perm.refl _, oneSrt (by omega) hA hB, rfl⟩
          rw [← eL] at hS
        have hL1 := p1.length_eq
        rw [List.length_append] at hL1
        have hlL3 : (P ++ L1 ++ (A2 ++ B2) ++ S).length = len := by simp only [List.length_append]; omega
        have hn2 : (P ++ L1).length = P.length + L1.length := List.length_append
        first
        | refine (ih hS.holds (P := P ++ L1) (A := A2) (B := B2) (S := S) (by simp only [List.append_assoc]) hlL3 (by omega) (by omega) (by omega) hA.right hB.right z2 z4 (by omega)).mono ?_
          rintro _ w4 ⟨R1, p2, s2, hS'⟩
          have hS := hS.call1 hS'
          repeat (first | refine SemW.run tblOk ?_ | refine IntG.nw (by omega) ?_ | refine IntG.nu8 (by omega) ?_ | refine IntG.nu32 (by omega) ?_ | refine IntG.nu64 (by omega) ?_ | refine IntG.wr' rfl ?_ | refine Chk.mk (by omega) ?_ | (refine BrG.id ?_; first | with_reducible refine BrG.t ?_ | with_reducible refine BrG.f ?_ | with_reducible refine BrG.notG ?_ | with_reducible refine BrG.nn ?_ | with_reducible refine BrG.ns ?_ | refine BrG.pos (by omega) ?_ | refine BrG.neg (by omega) ?_ | with_reducible refine BrG.pos rfl ?_ | refine BrG.pos (by assumption) ?_ | refine BrG.neg (by assumption) ?_ | refine BrG.pos (by decide) ?_ | refine BrG.neg (by decide) ?_) | refine Chk.mk (ptr_ok tblOk rfl rfl) ?_ | refine Chk.mk (by decide) ?_)
        | obtain ⟨R1, p2, s2, eR⟩ : ∃ R1, R1.Perm (A2 ++ B2) ∧ Srt (fun x y => decide (cm x y < 0)) R1 ∧ R1 = A2 ++ B2 := ⟨_, List.Perm.refl _, oneSrt' (by omega) hA hB, rfl⟩
          rw [← eR] at hS
        refine ⟨L1 ++ R1, halves_perm p1 p2, s1.app s2 fun x hx y hy => hsp x (p1.mem_iff.1 hx) y (p2.mem_iff.1 hy), ?_⟩
        rw [← List.append_assoc P L1 R1]
        exact hS
end Go.Proofs.YtkncpdehgcldbaaDoor
