/- Texts of this claim, one behind the other. -/
import Derived.Test.YtkgibdhpijdbfaaGreatDoorZ1
import Derived.Lib.Bytealg
import Derived.Lib.SliceRun
import Derived.Test.YtkgibdhpijdbfaaGreatDoorZ0
import Derived.Laws.IdiomStrings
set_option linter.unusedVariables false
set_option linter.unusedSimpArgs false
namespace Go.Proofs.YtkgibdhpijdbfaaGreatDoor
open Go Go.Eng Go.Proofs Go.Srt
set_option maxRecDepth 4000 in
set_option maxHeartbeats 16000000 in
theorem merge_api_File {fc : FuncId} {cm : FileM → FileM → Int} (hO : Ord fun x y => decide (cm x y < 0)) (hcm : ∀ (x y : FileM) (w : World), Cl Tryz.prog fc [fileV x, fileV y] w fun v w' => v = .int .i64 (cm x y) ∧ St w [] [] w') {g cap len : Nat} {tail : List Value} (hlen : len ≤ 16777216) : ∀ (N : Nat) {w : World} {a m b : Int} {l P A B S : List FileM}, Holds [(g, .cells ⟨l.flatMap fileC ++ tail⟩ T_api_File (0, 0))] w → l = P ++ A ++ B ++ S → l.length = len → a = P.length → m = P.length + A.length → b = P.length + A.length + B.length → Srt (fun x y => decide (cm x y < 0)) A → Srt (fun x y => decide (cm x y < 0)) B → 1 ≤ A.length → 1 ≤ B.length → A.length + B.length ≤ N →
  Cl Tryz.prog f_slices_symMergeCmpFunc_api_File [.slice (some ⟨g, 0, none⟩) len cap, .int .i64 a, .int .i64 m, .int .i64 b, .func (.func fc) ⟨[]⟩ ⟨[]⟩] w fun _ w' => ∃ M', M'.Perm (A ++ B) ∧ Srt (fun x y => decide (cm x y < 0)) M' ∧ St w [g] [(g, .cells ⟨(P ++ M' ++ S).flatMap fileC ++ tail⟩ T_api_File (0, 0))] w' := by
 intro N
 induction N with
 |zero => intro w a m b l P A B S hh hl hlL ha hm hb hA hB hA1 hB1 hN; omega
 |succ N ih =>
 intro w a m b l P A B S hh hl hlL ha hm hb hA hB hA1 hB1 hN
 by_cases c1 : A.length = 1
 ·obtain ⟨x, rfl⟩ := kDk.1 c1
  rw [kBv] at hm hb
  exact merge1_api_File hO hcm hh (by rw [hl]; simp) hlL hlen ha hm hb hB
 by_cases c2 : B.length = 1
 ·obtain ⟨y, rfl⟩ := kDk.1 c2
  rw [kBv] at hb
  exact merge2_api_File hO hcm hh (by rw [hl]; simp) hlL hlen ha hm hb hA (by omega)
 have hS : St w [g] [(g, .cells ⟨l.flatMap fileC ++ tail⟩ T_api_File (0, 0))] w := St.enter hh
 have hll : len = P.length + A.length + B.length + S.length := by rw [← hlL, hl]; simp only [kAa]
 have hat1 : ∀ c (hc : c < A.length) (h : P.length + c < (P ++ A ++ B ++ S).length), (P ++ A ++ B ++ S)[P.length + c] = A[c] := by
  intro c hc h
  have e5 : (P ++ A ++ B ++ S)[P.length + c]? = some A[c] := by
   rw [kAc, kAc, kBh (by omega), show P.length + c - P.length = c by omega, kAz hc, kAp hc]
  rw [kAp h, Option.some.injEq] at e5
  exact e5
 have hat2 : ∀ c (hc : c < B.length) (h : P.length + A.length + c < (P ++ A ++ B ++ S).length), (P ++ A ++ B ++ S)[P.length + A.length + c] = B[c] := by
  intro c hc h
  have hPA : (P ++ A).length = P.length + A.length := kAa
  have e5 : (P ++ A ++ B ++ S)[P.length + A.length + c]? = some B[c] := by
   rw [kAc (P ++ A), kBh (by omega), hPA, show P.length + A.length + c - (P.length + A.length) = c by omega, kAz hc, kAp hc]
  rw [kAp h, Option.some.injEq] at e5
  exact e5
 subst hl
 obtain ⟨d, hd⟩ : ∃ d, d = (A.length + B.length) / 2 := ⟨_, rfl⟩
 -- the search: s0, r0 are its ends, counted from a
 obtain ⟨s0, r0, hsr⟩ : ∃ s0 r0 : Nat, (d < A.length → s0 = d + A.length - (A.length + B.length) ∧ r0 = d) ∧ (A.length ≤ d → s0 = 0 ∧ r0 = A.length) := by
  by_cases h : d < A.length
  ·exact ⟨d + A.length - (A.length + B.length), d, fun _ => ⟨rfl, rfl⟩, fun h' => absurd h' (by omega)⟩
  ·exact ⟨0, A.length, fun h' => absurd h' h, fun _ => ⟨rfl, rfl⟩⟩
 refine en_slices_symMergeCmpFunc_api_File rfl ?_
 refine jq ⟨?_⟩
 refine IntG.half (r := a + d) (by omega) (by omega) ?_
 refine jq ⟨?_⟩
 by_cases hdA : d < A.length
 all_goals
  have hs0 : s0 ≤ r0 ∧ r0 ≤ d ∧ r0 ≤ A.length ∧ d - s0 ≤ B.length := by omega
  refine jq ⟨?_⟩
  refine SemW.loop (fun z : Nat × Nat => [(0, .slice (some ⟨g, 0, none⟩) len cap), (1, .int .i64 a), (2, .int .i64 m), (3, .int .i64 b), (4, .func (.func fc) ⟨[]⟩ ⟨[]⟩), (18, .int .i64 (a + d)), (19, .int .i64 (a + d + m)), (20, .int .i64 (a + z.1)), (21, .int .i64 (a + z.2)), (22, .int .i64 (a + d + m - 1))])
   (fun z w' => (s0 ≤ z.1 ∧ z.1 ≤ z.2 ∧ z.2 ≤ r0 ∧ EdgeL (fun x y => decide (cm x y < 0)) A B d z.1 s0 ∧ EdgeR (fun x y => decide (cm x y < 0)) A B d z.2 r0) ∧ St w [g] [(g, .cells ⟨(P ++ A ++ B ++ S).flatMap fileC ++ tail⟩ T_api_File (0, 0))] w') (fun z => z.2 - z.1) (s0, r0)
   ⟨rfl, rfl, rfl, rfl, rfl, rfl, rfl, by show _ = Value.int .i64 _; congr 1; simp only; omega, by show _ = Value.int .i64 _; congr 1; simp only; omega, rfl, trivial⟩ ⟨⟨kAd _, hs0.1, kAd _, .inl rfl, .inl rfl⟩, hS⟩ ?_
  clear hS
  rintro ⟨s, r⟩ w1 ⟨⟨q1, q2, q3, E1, E2⟩, hS⟩
  simp only at q1 q2 q3 E1 E2 hS ⊢
  by_cases hlt : s < r
  ·refine jq ⟨?_⟩
   obtain ⟨c, hc⟩ : ∃ c, c = (s + r) / 2 := ⟨_, rfl⟩
   have hcA : c < A.length := by omega
   have hcB : d - 1 - c < B.length := by omega
   have hi : P.length + A.length + (d - 1 - c) < (P ++ A ++ B ++ S).length := by omega
   have hj : P.length + c < (P ++ A ++ B ++ S).length := by omega
   have e1 := hat2 _ hcB hi
   have e2 := hat1 _ hcA hj
   refine IntG.half (r := a + c) (by omega) (by omega) ?_
   refine jq ⟨?_⟩
   refine SemW.draw tblOk mixed (fun w' => St w [g] [(g, .cells ⟨(P ++ A ++ B ++ S).flatMap fileC ++ tail⟩ T_api_File (0, 0))] w') [11, 12, 13] [0, 1, 2, 3, 4, 5, 6, 7, 8, 9, 10, 11, 12, 13] (by kernel_rfl) hS.drew ?_
   have hS := hS.drew
   refine jr ⟨?_⟩
   refine St.ldEC (sz := 2) (cv := fileC) (fun _ => rfl) hS hi ?_ ?_
   ·omega
   rw [e1]
   refine jr ⟨?_⟩
   refine St.ldEC (sz := 2) (cv := fileC) (fun _ => rfl) hS hj ?_ ?_
   ·omega
   rw [e2]
   refine jr ⟨?_⟩
   refine (hcm B[d - 1 - c] A[c] _).mono ?_
   rintro _ w3 ⟨rfl, hS'⟩
   have hS := hS.call0 hS'
   by_cases hcc : cm B[d - 1 - c] A[c] < 0
   ·refine jq ⟨?_⟩
    refine ⟨(s, c), ⟨rfl, rfl, rfl, rfl, rfl, rfl, rfl, rfl, rfl, rfl, trivial⟩, ⟨⟨q1, by simp only; omega, by simp only; omega, E1, .inr ⟨A[c], B[d - 1 - c], kAp hcA, ?_, decide_eq_true hcc⟩⟩, hS⟩, by simp only; omega⟩
    rw [show d - c - 1 = d - 1 - c by omega]; exact kAp hcB
   ·refine jq ⟨?_⟩
    refine ⟨(c + 1, r), ⟨rfl, rfl, rfl, rfl, rfl, rfl, rfl, by show _ = Value.int .i64 _; congr 1; simp only; omega, rfl, rfl, trivial⟩, ⟨⟨by simp only; omega, by simp only; omega, q3, .inr ⟨A[c], B[d - 1 - c], ?_, ?_, decide_eq_false hcc⟩, E2⟩, hS⟩, by simp only; omega⟩
    ·rw [Nat.add_sub_cancel]; exact kAp hcA
    ·rw [show d - (c + 1) = d - 1 - c by omega]; exact kAp hcB
  ·have hsr' : r = s := by omega
   subst hsr'
   obtain ⟨A1, A2, rfl, hA1'⟩ : ∃ A1 A2, A = A1 ++ A2 ∧ A1.length = r := ⟨A.take r, A.drop r, (kAu _ _).symm, by rw [kAo]; omega⟩
   obtain ⟨B1, B2, rfl, hB1'⟩ : ∃ B1 B2, B = B1 ++ B2 ∧ B1.length = d - r := ⟨B.take (d - r), B.drop (d - r), (kAu _ _).symm, by rw [kAo]; omega⟩
   have k1 : ∀ x y, A1.getLast? = some x → B2.head? = some y → decide (cm y x < 0) = false := by
    intro x y hx hy
    have hx0 : 0 < A1.length := by cases A1 with | nil => cases hx | cons => simp
    have hy0 : 0 < B2.length := by cases B2 with | nil => cases hy | cons => simp
    rw [kAa] at hs0 hsr
    rw [kAa] at hs0 hsr
    rcases E1 with h | ⟨x', y', h1, h2, h3⟩
    ·omega
    ·rw [List.getLast?_eq_getElem?] at hx
     rw [List.head?_eq_getElem?] at hy
     rw [kAz (by omega), ← hA1', hx, Option.some.injEq] at h1
     rw [kBh (by omega), hB1', Nat.sub_self, hy, Option.some.injEq] at h2
     subst h1 h2; exact h3
   have k2 : ∀ x y, B1.getLast? = some x → A2.head? = some y → decide (cm x y < 0) = true := by
    intro x y hx hy
    have hx0 : 0 < B1.length := by cases B1 with | nil => cases hx | cons => simp
    have hy0 : 0 < A2.length := by cases A2 with | nil => cases hy | cons => simp
    rw [kAa] at hs0 hsr
    rw [kAa] at hs0 hsr
    rcases E2 with h | ⟨x', y', h1, h2, h3⟩
    ·omega
    ·rw [List.getLast?_eq_getElem?] at hx
     rw [List.head?_eq_getElem?] at hy
     rw [kBh (by omega), hA1', Nat.sub_self, hy, Option.some.injEq] at h1
     rw [kAz (by omega), ← hB1', hx, Option.some.injEq] at h2
     subst h1 h2; exact h3
   have hsp := split_ok hO hA hB k1 k2
   clear k1 k2 E1 E2 hat1 hat2
   simp only [kAa] at hm hb hll hN hd hA1 hB1 hs0 hdA c1 c2
   clear hsr
   have hlL2 : (P ++ (A1 ++ B1) ++ (A2 ++ B2) ++ S).length = len := by simp only [kAa]; omega
   have hn1 : (P ++ A1).length = P.length + A1.length := kAa
   rcases kCz A1.length with z1 | z1 <;> rcases kCz A2.length with z2 | z2 <;> rcases kCz B1.length with z3 | z3 <;> rcases kCz B2.length with z4 | z4 <;> try (exfalso; omega)
   all_goals
    refine jq ⟨?_⟩
    first
    |refine (rotate_api_File hS.holds (P := P ++ A1) (U := A2) (V := B1) (S := B2 ++ S) (by simp only [kAc]) hlL hlen (by omega) (by omega) (by omega) z2 z3).mono ?_
     intro _ w2 hS'
     have hS := hS.call1 hS'
     have e9 : P ++ A1 ++ B1 ++ A2 ++ (B2 ++ S) = P ++ (A1 ++ B1) ++ (A2 ++ B2) ++ S := by simp only [kAc]
     rw [e9] at hS
     refine jq ⟨?_⟩
    |rw [noRot (by omega)] at hS
    first
    |refine (ih hS.holds (P := P) (A := A1) (B := B1) (S := (A2 ++ B2) ++ S) (by simp only [kAc]) hlL2 ha (by omega) (by omega) hA.left hB.left z1 z3 (by omega)).mono ?_
     rintro _ w3 ⟨L1, p1, s1, hS'⟩
     have hS := hS.call1 hS'
     rw [← kAc (P ++ L1) (A2 ++ B2) S] at hS
     refine jq ⟨?_⟩
    |obtain ⟨L1, p1, s1, eL⟩ : ∃ L1, L1.Perm (A1 ++ B1) ∧ Srt (fun x y => decide (cm x y < 0)) L1 ∧ L1 = A1 ++ B1 := ⟨_, List.Perm.refl _, oneSrt (by omega) hA hB, rfl⟩
     rw [← eL] at hS
    have hL1 := p1.length_eq
    rw [kAa] at hL1
    have hlL3 : (P ++ L1 ++ (A2 ++ B2) ++ S).length = len := by simp only [kAa]; omega
    have hn2 : (P ++ L1).length = P.length + L1.length := kAa
    first
    |refine (ih hS.holds (P := P ++ L1) (A := A2) (B := B2) (S := S) (by simp only [kAc]) hlL3 (by omega) (by omega) (by omega) hA.right hB.right z2 z4 (by omega)).mono ?_
     rintro _ w4 ⟨R1, p2, s2, hS'⟩
     have hS := hS.call1 hS'
     refine jq ⟨?_⟩
    |obtain ⟨R1, p2, s2, eR⟩ : ∃ R1, R1.Perm (A2 ++ B2) ∧ Srt (fun x y => decide (cm x y < 0)) R1 ∧ R1 = A2 ++ B2 := ⟨_, List.Perm.refl _, oneSrt' (by omega) hA hB, rfl⟩
     rw [← eR] at hS
    refine ⟨L1 ++ R1, halves_perm p1 p2, s1.app s2 fun x hx y hy => hsp x (p1.mem_iff.1 hx) y (p2.mem_iff.1 hy), ?_⟩
    rw [← kAc P L1 R1]
    exact hS
structure ST_api_File where
 bs : List (List FileM)
 R : List FileM
structure SU_api_File where
 l : List FileM
 n : Nat
set_option maxRecDepth 4000 in
set_option maxHeartbeats 16000000 in
theorem stable_api_File {fc : FuncId} {cm : FileM → FileM → Int} (hO : Ord fun x y => decide (cm x y < 0)) (hcm : ∀ (x y : FileM) (w : World), Cl Tryz.prog fc [fileV x, fileV y] w fun v w' => v = .int .i64 (cm x y) ∧ St w [] [] w') {w : World} {g cap len : Nat} {l : List FileM} {tail : List Value} (hh : Holds [(g, .cells ⟨l.flatMap fileC ++ tail⟩ T_api_File (0, 0))] w) (hlL : l.length = len) (hlen : len ≤ 16777216) :
  Cl Tryz.prog f_slices_stableCmpFunc_api_File [.slice (some ⟨g, 0, none⟩) len cap, .int .i64 len, .func (.func fc) ⟨[]⟩ ⟨[]⟩] w fun _ w' => ∃ l', l'.Perm l ∧ Srt (fun x y => decide (cm x y < 0)) l' ∧ St w [g] [(g, .cells ⟨l'.flatMap fileC ++ tail⟩ T_api_File (0, 0))] w' := by
 have hS : St w [g] [(g, .cells ⟨l.flatMap fileC ++ tail⟩ T_api_File (0, 0))] w := St.enter hh
 refine en_slices_stableCmpFunc_api_File rfl ?_
 refine jq ⟨?_⟩
 refine SemW.loop (fun x : ST_api_File => [(0, .slice (some ⟨g, 0, none⟩) len cap), (1, .int .i64 len), (2, .func (.func fc) ⟨[]⟩ ⟨[]⟩), (6, .int .i64 20), (7, .int .i64 x.bs.flatten.length), (8, .int .i64 (x.bs.flatten.length + 20))])
  (fun x w' => ((x.bs.flatten ++ x.R).Perm l ∧ Full (fun x y => decide (cm x y < 0)) 20 x.bs) ∧ St w [g] [(g, .cells ⟨(x.bs.flatten ++ x.R).flatMap fileC ++ tail⟩ T_api_File (0, 0))] w') (fun x => x.R.length) ⟨[], l⟩
  ⟨rfl, rfl, rfl, rfl, rfl, rfl, trivial⟩ ⟨⟨List.Perm.refl _, nofun⟩, hS⟩ ?_
 clear hS
 rintro ⟨bs, R⟩ w1 ⟨⟨hp, hf⟩, hS⟩
 simp only at hp hf hS ⊢
 have hpl := hp.length_eq
 rw [kAa] at hpl
 generalize hbl : bs.flatten.length = q at hpl ⊢
 by_cases hle : 20 ≤ R.length
 ·obtain ⟨X, R', rfl, hX⟩ : ∃ X R', R = X ++ R' ∧ X.length = 20 := ⟨R.take 20, R.drop 20, (kAu _ _).symm, by rw [kAo]; omega⟩
  rw [kAa] at hpl
  refine jq ⟨?_⟩
  refine (insertion_api_File hO hcm hS.holds (P := bs.flatten) (M := X) (S := R') (by simp only [kAc]) (hp.length_eq.trans hlL) hlen (by omega) (by omega)).mono ?_
  rintro _ w2 ⟨X', p1, s1, hS'⟩
  have hS := hS.call1 hS'
  have e1 : (bs ++ [X']).flatten = bs.flatten ++ X' := by simp
  have hXl := p1.length_eq
  have e2 : (bs ++ [X']).flatten.length = q + 20 := by rw [e1, kAa]; omega
  refine jq ⟨?_⟩
  refine ⟨⟨bs ++ [X'], R'⟩, ⟨rfl, rfl, rfl, rfl, by show _ = Value.int .i64 _; congr 1; simp only; omega, by show _ = Value.int .i64 _; congr 1; simp only; omega, trivial⟩, ⟨⟨?_, hf.snoc (by omega) s1⟩, ?_⟩, by simp only [kAa]; omega⟩
  ·simp only [e1]
   refine List.Perm.trans ?_ hp
   rw [kAc]
   exact (p1.append_right R').append_left _
  ·simp only [e1]; exact hS
 ·refine jq ⟨?_⟩
  refine (insertion_api_File hO hcm hS.holds (P := bs.flatten) (M := R) (S := []) (by rw [kAk]) (hp.length_eq.trans hlL) hlen (by omega) (by omega)).mono ?_
  rintro _ w2 ⟨R1, p1, s1, hS'⟩
  have hS := hS.call1 hS'
  rw [kAk] at hS
  have hRl := p1.length_eq
  have hp1 : (bs.flatten ++ R1).Perm l := (p1.append_left _).trans hp
  have hc : Cks (fun x y => decide (cm x y < 0)) 20 (bs.flatten ++ R1) := ⟨bs, R1, rfl, hf, by omega, s1⟩
  generalize bs.flatten ++ R1 = l1 at hS hc hp1
  clear hRl p1 s1 hpl hbl hf hp hle
  refine jq ⟨?_⟩
  refine SemW.loop (fun x : SU_api_File => [(0, .slice (some ⟨g, 0, none⟩) len cap), (1, .int .i64 len), (2, .func (.func fc) ⟨[]⟩ ⟨[]⟩), (6, .int .i64 x.n)])
   (fun x w' => (x.l.Perm l ∧ Cks (fun x y => decide (cm x y < 0)) x.n x.l ∧ 1 ≤ x.n) ∧ St w [g] [(g, .cells ⟨x.l.flatMap fileC ++ tail⟩ T_api_File (0, 0))] w') (fun x => len - x.n) ⟨l1, 20⟩
   ⟨rfl, rfl, rfl, rfl, trivial⟩ ⟨⟨hp1, hc, by simp only; omega⟩, hS⟩ ?_
  clear hS hp1 hc
  rintro ⟨l2, n⟩ w3 ⟨⟨hp, hc, hn⟩, hS⟩
  simp only at hp hc hn hS ⊢
  have hpl := hp.length_eq
  by_cases hnl : n < len
  ·obtain ⟨bs0, r, rfl, hf0, hr, hsr⟩ := hc
   refine jq ⟨?_⟩
   refine SemW.loop (fun x : List (List FileM) × List (List FileM) => [(0, .slice (some ⟨g, 0, none⟩) len cap), (1, .int .i64 len), (2, .func (.func fc) ⟨[]⟩ ⟨[]⟩), (6, .int .i64 n), (7, .int .i64 x.1.flatten.length), (8, .int .i64 (x.1.flatten.length + 2 * n))])
    (fun x w' => ((x.1.flatten ++ x.2.flatten ++ r).Perm l ∧ Full (fun x y => decide (cm x y < 0)) (2 * n) x.1 ∧ Full (fun x y => decide (cm x y < 0)) n x.2) ∧ St w [g] [(g, .cells ⟨(x.1.flatten ++ x.2.flatten ++ r).flatMap fileC ++ tail⟩ T_api_File (0, 0))] w') (fun x => x.2.length) ([], bs0)
    ⟨rfl, rfl, rfl, rfl, rfl, by show _ = Value.int .i64 _; congr 1; simp only [kCc, kAq]; omega, trivial⟩ ⟨⟨hp, nofun, hf0⟩, hS⟩ ?_
   clear hS hf0 hp
   rintro ⟨b1, b2⟩ w4 ⟨⟨hp, hf1, hf2⟩, hS⟩
   simp only at hp hf1 hf2 hS ⊢
   have hpl2 := hp.length_eq
   rw [kAa, kAa] at hpl2
   have hlL4 := hp.length_eq.trans hlL
   generalize hbl : b1.flatten.length = q at hpl2 ⊢
   match b2, hf2, hpl2, hp, hS, hlL4 with
   |x :: y :: rest, hf2, hpl2, hp, hS, hlL4 =>
    have hx := hf2.hd
    have hy := hf2.tl.hd
    have hxy : (x :: y :: rest).flatten = x ++ (y ++ rest.flatten) := by simp
    rw [hxy] at hS hp hpl2 hlL4
    rw [kAa, kAa] at hpl2
    refine jq ⟨?_⟩
    refine (merge_api_File hO hcm hlen _ hS.holds (P := b1.flatten) (A := x) (B := y) (S := rest.flatten ++ r) (by simp only [kAc]) hlL4 (by omega) (by omega) (by omega) hx.2 hy.2 (by omega) (by omega) (kAd _)).mono ?_
    rintro _ w5 ⟨M, p1, s1, hS'⟩
    have hS := hS.call1 hS'
    have e1 : (b1 ++ [M]).flatten = b1.flatten ++ M := by simp
    have hMl := p1.length_eq
    rw [kAa] at hMl
    have e2 : (b1 ++ [M]).flatten.length = q + 2 * n := by rw [e1, kAa]; omega
    refine jq ⟨?_⟩
    refine ⟨(b1 ++ [M], rest), ⟨rfl, rfl, rfl, rfl, by show _ = Value.int .i64 _; congr 1; simp only; omega, by show _ = Value.int .i64 _; congr 1; simp only; omega, trivial⟩, ⟨⟨?_, hf1.snoc (by omega) s1, hf2.tl.tl⟩, ?_⟩, by simp only [kAe]; omega⟩
    ·simp only [e1]
     refine List.Perm.trans ?_ hp
     rw [kAc, kAc, kAc b1.flatten]
     refine List.Perm.append_left _ ?_
     refine (p1.append_right _).trans (List.Perm.of_eq ?_)
     simp only [kAc]
    ·simp only [e1]
     rw [kAc (b1.flatten ++ M)]
     exact hS
   |[x], hf2, hpl2, hp, hS, hlL4 =>
    have hx := hf2.hd
    have hxy : [x].flatten = x := by simp
    rw [hxy] at hS hp hpl2 hlL4
    by_cases hr0 : 0 < r.length
    ·refine jq ⟨?_⟩
     refine (merge_api_File hO hcm hlen _ hS.holds (P := b1.flatten) (A := x) (B := r) (S := []) (by rw [kAk]) hlL4 (by omega) (by omega) (by omega) hx.2 hsr (by omega) (by omega) (kAd _)).mono ?_
     rintro _ w5 ⟨M, p1, s1, hS'⟩
     have hS := hS.call1 hS'
     rw [kAk] at hS
     have hMl := p1.length_eq
     rw [kAa] at hMl
     refine jq ⟨?_⟩
     refine ⟨⟨b1.flatten ++ M, n * 2⟩, ⟨rfl, rfl, rfl, rfl, trivial⟩, ⟨⟨?_, ⟨b1, M, rfl, by rw [kCk]; exact hf1, by simp only; omega, s1⟩, by simp only; omega⟩, hS⟩, by simp only; omega⟩
     refine List.Perm.trans ?_ hp
     rw [kAc]
     exact p1.append_left _
    ·refine jq ⟨?_⟩
     have hr1 : r = [] := kCh.1 (by omega)
     rw [hr1, kAk] at hS hp
     refine ⟨⟨b1.flatten ++ x, n * 2⟩, ⟨rfl, rfl, rfl, rfl, trivial⟩, ⟨⟨hp, ⟨b1, x, rfl, by rw [kCk]; exact hf1, by simp only; omega, hx.2⟩, by simp only; omega⟩, hS⟩, by simp only; omega⟩
   |[], hf2, hpl2, hp, hS, hlL4 =>
    rw [kCc, kAk] at hS hp hlL4
    rw [kCc, kAq] at hpl2
    refine jq ⟨?_⟩
    refine ⟨⟨b1.flatten ++ r, n * 2⟩, ⟨rfl, rfl, rfl, rfl, trivial⟩, ⟨⟨hp, ⟨b1, r, rfl, by rw [kCk]; exact hf1, by simp only; omega, hsr⟩, by simp only; omega⟩, hS⟩, by simp only; omega⟩
  ·refine jq ⟨?_⟩
   refine ⟨l2, hp, hc.all (by omega), hS⟩
theorem sortStable_api_File {fc : FuncId} {cm : FileM → FileM → Int} (hO : Ord fun x y => decide (cm x y < 0)) (hcm : ∀ (x y : FileM) (w : World), Cl Tryz.prog fc [fileV x, fileV y] w fun v w' => v = .int .i64 (cm x y) ∧ St w [] [] w') {w : World} {g cap len : Nat} {l : List FileM} {tail : List Value} (hh : Holds [(g, .cells ⟨l.flatMap fileC ++ tail⟩ T_api_File (0, 0))] w) (hlL : l.length = len) (hlen : len ≤ 16777216) :
  Cl Tryz.prog f_slices_SortStableFunc_api_File_api_File [.slice (some ⟨g, 0, none⟩) len cap, .func (.func fc) ⟨[]⟩ ⟨[]⟩] w fun _ w' => ∃ l', l'.Perm l ∧ Srt (fun x y => decide (cm x y < 0)) l' ∧ St w [g] [(g, .cells ⟨l'.flatMap fileC ++ tail⟩ T_api_File (0, 0))] w' := by
 refine en_slices_SortStableFunc_api_File_api_File rfl ?_
 refine jq ⟨?_⟩
 refine (stable_api_File hO hcm hh hlL hlen).mono ?_
 intro _ w' h
 refine jq ⟨?_⟩
 exact h
theorem insertNil_api_File {w : World} {F : Value} : Cl Tryz.prog f_slices_insertionSortCmpFunc_api_File [.slice none 0 0, .int .i64 0, .int .i64 0, F] w fun _ w' => St w [] [] w' := by
 have hS := St.start w
 refine en_slices_insertionSortCmpFunc_api_File rfl ?_
 refine jq ⟨?_⟩
 refine SemW.loop (fun _ : Unit => [(2, .int .i64 0), (8, .int .i64 1)]) (fun _ w' => St w [] [] w') (fun _ => 0) () ⟨rfl, rfl, trivial⟩ hS ?_
 clear hS
 intro _ w1 hS
 refine jq ⟨?_⟩
 exact hS
theorem stableNil_api_File {w : World} {F : Value} : Cl Tryz.prog f_slices_stableCmpFunc_api_File [.slice none 0 0, .int .i64 0, F] w fun _ w' => St w [] [] w' := by
 have hS := St.start w
 refine en_slices_stableCmpFunc_api_File rfl ?_
 refine jq ⟨?_⟩
 refine SemW.loop (fun _ : Unit => [(0, .slice none 0 0), (1, .int .i64 0), (2, F), (6, .int .i64 20), (7, .int .i64 0), (8, .int .i64 20)]) (fun _ w' => St w [] [] w') (fun _ => 0) () ⟨rfl, rfl, rfl, rfl, rfl, rfl, trivial⟩ hS ?_
 clear hS
 intro _ w1 hS
 refine jq ⟨?_⟩
 refine insertNil_api_File.mono ?_
 intro _ w2 hS'
 have hS := hS.call0 hS'
 refine jq ⟨?_⟩
 refine SemW.loop (fun _ : Unit => [(1, .int .i64 0), (6, .int .i64 20)]) (fun _ w' => St w [] [] w') (fun _ => 0) () ⟨rfl, rfl, trivial⟩ hS ?_
 clear hS
 intro _ w3 hS
 refine jq ⟨?_⟩
 exact hS
theorem sortNil_api_File {w : World} {F : Value} : Cl Tryz.prog f_slices_SortStableFunc_api_File_api_File [.slice none 0 0, F] w fun _ w' => St w [] [] w' := by
 refine en_slices_SortStableFunc_api_File_api_File rfl ?_
 refine jq ⟨?_⟩
 refine stableNil_api_File.mono ?_
 intro _ w' h
 refine jq ⟨?_⟩
 exact h
end Go.Proofs.YtkgibdhpijdbfaaGreatDoor
namespace Go.Proofs.YtkgibdhpijdbfaaGreatDoor
open Go Go.Eng
def p32 : Nat := 4294967296
def rotr (n x : Nat) : Nat := x / 2 ^ n + x % 2 ^ n * 2 ^ (32 - n)
def kList : List Nat := [1116352408, 1899447441, 3049323471, 3921009573, 961987163, 1508970993, 2453635748, 2870763221, 3624381080, 310598401, 607225278, 1426881987, 1925078388, 2162078206, 2614888103, 3248222580, 3835390401, 4022224774, 264347078, 604807628, 770255983, 1249150122, 1555081692, 1996064986, 2554220882, 2821834349, 2952996808, 3210313671, 3336571891, 3584528711, 113926993, 338241895, 666307205, 773529912, 1294757372, 1396182291, 1695183700, 1986661051, 2177026350, 2456956037, 2730485921, 2820302411, 3259730800, 3345764771, 3516065817, 3600352804, 4094571909, 275423344, 430227734, 506948616, 659060556, 883997877, 958139571, 1322822218, 1537002063, 1747873779, 1955562222, 2024104815, 2227730452, 2361852424, 2428436474, 2756734187, 3204031479, 3329325298]
def wordAt (b : Bytes) (i : Nat) : Nat := ((b.getD (4 * i) 0).toNat * 16777216 + (b.getD (4 * i + 1) 0).toNat * 65536) + (b.getD (4 * i + 2) 0).toNat * 256 + (b.getD (4 * i + 3) 0).toNat
def sg0 (x : Nat) : Nat := rotr 7 x ^^^ rotr 18 x ^^^ x / 8
def sg1 (x : Nat) : Nat := rotr 17 x ^^^ rotr 19 x ^^^ x / 1024
def wNext (w : List Nat) (i : Nat) : Nat := (w.getD (i - 16) 0 + w.getD (i - 7) 0 + sg0 (w.getD (i - 15) 0) + sg1 (w.getD (i - 2) 0)) % p32
def words (b : Bytes) : Nat → List Nat
 |0 => (List.range 16).map (wordAt b)
 |n + 1 => words b n ++ [wNext (words b n) (16 + n)]
def nt (x : Nat) : Nat := p32 - 1 - x
def bs0 (a : Nat) : Nat := rotr 2 a ^^^ rotr 13 a ^^^ rotr 22 a
def bs1 (e : Nat) : Nat := rotr 6 e ^^^ rotr 11 e ^^^ rotr 25 e
def t1M (v : List Nat) (k w : Nat) : Nat := (v.getD 7 0 + bs1 (v.getD 4 0) + ((v.getD 4 0 &&& v.getD 5 0) ^^^ (nt (v.getD 4 0) &&& v.getD 6 0)) + k + w) % p32
def t2M (v : List Nat) : Nat := (bs0 (v.getD 0 0) + ((v.getD 0 0 &&& v.getD 1 0) ^^^ (v.getD 0 0 &&& v.getD 2 0) ^^^ (v.getD 1 0 &&& v.getD 2 0))) % p32
def roundM (v : List Nat) (k w : Nat) : List Nat :=
 [(t1M v k w + t2M v) % p32, v.getD 0 0, v.getD 1 0, v.getD 2 0, (v.getD 3 0 + t1M v k w) % p32, v.getD 4 0, v.getD 5 0, v.getD 6 0]
def rounds (v w : List Nat) : Nat → List Nat
 |0 => v
 |n + 1 => roundM (rounds v w n) (kList.getD n 0) (w.getD n 0)
def addM (h v : List Nat) : List Nat := (List.range 8).map fun i => (h.getD i 0 + v.getD i 0) % p32
def stepM (h : List Nat) (b : Bytes) : List Nat := addM h (rounds h (words b 48) 64)
def be8 (n : Nat) : Bytes := [UInt8.ofNat (n / 2 ^ 56), UInt8.ofNat (n / 2 ^ 48), UInt8.ofNat (n / 2 ^ 40), UInt8.ofNat (n / 2 ^ 32), UInt8.ofNat (n / 2 ^ 24), UInt8.ofNat (n / 2 ^ 16), UInt8.ofNat (n / 2 ^ 8), UInt8.ofNat n]
def zerosFor (n : Nat) : Nat := (119 - n % 64) % 64
def filled (t : Bytes) : Bytes := t ++ ([128] ++ List.replicate (zerosFor t.length) 0) ++ be8 (8 * t.length)
theorem less_cons (x y : UInt8) (xs ys : Bytes) : Op.bytesLess (x :: xs) (y :: ys) = (decide (x.toNat < y.toNat) || (decide (x.toNat = y.toNat) && Op.bytesLess xs ys)) := by
 show (decide (x < y) || (x == y && Op.bytesLess xs ys)) = _
 have e1 : decide (x < y) = decide (x.toNat < y.toNat) := by
  rw [decide_eq_decide]; exact UInt8.lt_iff_toNat_lt
 have e2 : (x == y) = decide (x.toNat = y.toNat) := by
  rw [Bool.eq_iff_iff, beq_iff_eq, decide_eq_true_eq]
  exact ⟨fun h => by rw [h], fun h => UInt8.toNat_inj.1 h⟩
 rw [e1, e2]
end Go.Proofs.YtkgibdhpijdbfaaGreatDoor
namespace Go.Proofs.YtkgibdhpijdbfaaGreatDoor
open Go Go.Eng Go.Proofs
theorem bless_cons (x y : UInt8) (xs ys : Bytes) : Op.bytesLess (x :: xs) (y :: ys) = (decide (x.toNat < y.toNat) || (decide (x.toNat = y.toNat) && Op.bytesLess xs ys)) := less_cons x y xs ys
theorem bless_irrefl : ∀ x : Bytes, Op.bytesLess x x = false
 |[] => rfl
 |c :: x => by rw [bless_cons, bless_irrefl x]; simp
theorem bless_nil (x : Bytes) : Op.bytesLess x [] = false := by cases x <;> rfl
theorem bless_trans : ∀ x y z : Bytes, Op.bytesLess x y = true → Op.bytesLess y z = true → Op.bytesLess x z = true
 |_, [], _, h, _ => by rw [bless_nil] at h; cases h
 |_, _ :: _, [], _, h => by rw [bless_nil] at h; cases h
 |[], _ :: _, _ :: _, _, _ => rfl
 |a :: x, b :: y, c :: z, h1, h2 => by
  rw [bless_cons] at h1 h2 ⊢
  simp only [Bool.or_eq_true, Bool.and_eq_true, decide_eq_true_eq] at h1 h2 ⊢
  rcases h1 with h1 | ⟨h1, h1'⟩
  ·rcases h2 with h2 | ⟨h2, -⟩
   ·exact .inl (Nat.lt_trans h1 h2)
   ·exact .inl (h2 ▸ h1)
  ·rcases h2 with h2 | ⟨h2, h2'⟩
   ·exact .inl (h1 ▸ h2)
   ·exact .inr ⟨h1.trans h2, bless_trans x y z h1' h2'⟩
theorem bless_tri : ∀ x y : Bytes, Op.bytesLess x y = true ∨ x = y ∨ Op.bytesLess y x = true
 |[], [] => .inr (.inl rfl)
 |[], _ :: _ => .inl rfl
 |_ :: _, [] => .inr (.inr rfl)
 |a :: x, b :: y => by
  rw [bless_cons, bless_cons]
  simp only [Bool.or_eq_true, Bool.and_eq_true, decide_eq_true_eq]
  rcases Nat.lt_trichotomy a.toNat b.toNat with h | h | h
  ·exact .inl (.inl h)
  ·rcases bless_tri x y with h2 | h2 | h2
   ·exact .inl (.inr ⟨h, h2⟩)
   ·exact .inr (.inl (by rw [UInt8.toNat_inj.1 h, h2]))
   ·exact .inr (.inr (.inr ⟨h.symm, h2⟩))
  ·exact .inr (.inr (.inl h))
theorem bless_asym {x y : Bytes} (h : Op.bytesLess x y = true) : Op.bytesLess y x = false := by
 cases h2 : Op.bytesLess y x with
 |false => rfl
 |true => have := bless_trans x y x h h2; rw [bless_irrefl] at this; cases this
def cmpI (x y : Int) : Int := if x < y then -1 else if y < x then 1 else 0
theorem cmp_less : ∀ (a b : Bytes), decide (Lib.compareBytes a b < 0) = Op.bytesLess a b
 |[], [] => rfl
 |[], _ :: _ => rfl
 |_ :: _, [] => rfl
 |a :: la, b :: lb => by
  rw [bless_cons]
  unfold Lib.compareBytes
  have e : ∀ x y : UInt8, x < y ↔ x.toNat < y.toNat := fun x y => UInt8.lt_iff_toNat_lt
  by_cases h : a.toNat < b.toNat
  ·rw [if_pos ((e a b).2 h), decide_eq_true h]; rfl
  ·rw [if_neg (fun h2 => h ((e a b).1 h2)), decide_eq_false h, Bool.false_or]
   by_cases h2 : b.toNat < a.toNat
   ·rw [if_pos ((e b a).2 h2), decide_eq_false (by omega : ¬ a.toNat = b.toNat)]; rfl
   ·rw [if_neg (fun h3 => h2 ((e b a).1 h3)), decide_eq_true (by omega : a.toNat = b.toNat), Bool.true_and]
    exact cmp_less la lb
theorem cmp_zero : ∀ (a b : Bytes), Lib.compareBytes a b = 0 ↔ a = b
 |[], [] => by simp [Lib.compareBytes]
 |[], _ :: _ => by simp [Lib.compareBytes]
 |_ :: _, [] => by simp [Lib.compareBytes]
 |a :: la, b :: lb => by
  unfold Lib.compareBytes
  have e : ∀ x y : UInt8, x < y ↔ x.toNat < y.toNat := fun x y => UInt8.lt_iff_toNat_lt
  by_cases h : a.toNat < b.toNat
  ·rw [if_pos ((e a b).2 h)]
   exact ⟨nofun, fun h2 => by simp only [List.cons.injEq] at h2; rw [h2.1] at h; omega⟩
  ·rw [if_neg (fun h2 => h ((e a b).1 h2))]
   by_cases h2 : b.toNat < a.toNat
   ·rw [if_pos ((e b a).2 h2)]
    exact ⟨nofun, fun h3 => by simp only [List.cons.injEq] at h3; rw [h3.1] at h2; omega⟩
   ·rw [if_neg (fun h3 => h2 ((e b a).1 h3)), cmp_zero la lb]
    have : a = b := UInt8.toNat_inj.1 (by omega)
    simp [this]
end Go.Proofs.YtkgibdhpijdbfaaGreatDoor
namespace Go.Proofs.YtkgibdhpijdbfaaGreatDoor
open Go Go.Eng Go.Proofs Go.Srt
def cmF (a b : FileM) : Int := if cmpI a.1 b.1 = 0 then cmpI a.2 b.2 else cmpI a.1 b.1
def ltF (a b : FileM) : Bool := decide (cmF a b < 0)
theorem ltF_iff (a b : FileM) : ltF a b = true ↔ a.1 < b.1 ∨ (a.1 = b.1 ∧ a.2 < b.2) := by
 unfold ltF cmF cmpI
 rw [decide_eq_true_iff]
 repeat' split
 all_goals omega
theorem ltF_false (a b : FileM) : ltF a b = false ↔ b.1 < a.1 ∨ (a.1 = b.1 ∧ b.2 ≤ a.2) := by
 have := ltF_iff a b
 cases h : ltF a b with
 |true => rw [h] at this; have := this.1 rfl; simp; omega
 |false => rw [h] at this; simp at this ⊢; omega
theorem ordF : Ord ltF := by
 constructor
 ·intro x y h; rw [ltF_iff] at h; rw [ltF_false]; omega
 ·intro x y z h1 h2; rw [ltF_false] at *; omega
theorem antiF (x y : FileM) (h1 : ltF x y = false) (h2 : ltF y x = false) : x = y := by
 rw [ltF_false] at h1 h2
 exact Prod.ext (by omega) (by omega)
def sortF (l : List FileM) : List FileM := l.foldl (ins ltF) []
theorem sortF_go (l acc : List FileM) (h : Srt ltF acc) : Srt ltF (l.foldl (ins ltF) acc) ∧ (l.foldl (ins ltF) acc).Perm (acc ++ l) := by
 induction l generalizing acc with
 |nil => exact ⟨h, by simp⟩
 |cons x l ih =>
  obtain ⟨h1, h2⟩ := ih (ins ltF acc x) (ins_srt ordF h x)
  refine ⟨h1, h2.trans ?_⟩
  refine ((ins_perm (lt := ltF) acc x).append_right l).trans ?_
  rw [kBe]
  exact kBg.symm
theorem sortF_srt (l : List FileM) : Srt ltF (sortF l) := (sortF_go l [] Srt.nil).1
theorem sortF_perm (l : List FileM) : (sortF l).Perm l := by have := (sortF_go l [] Srt.nil).2; rwa [kBj] at this
theorem sortF_len (l : List FileM) : (sortF l).length = l.length := (sortF_perm l).length_eq
theorem sortF_eq {l m : List FileM} (h1 : m.Perm l) (h2 : Srt ltF m) : m = sortF l := srt_unique antiF h2 (sortF_srt l) (h1.trans (sortF_perm l).symm)
theorem sortF_congr {l m : List FileM} (h : m.Perm l) : sortF m = sortF l := sortF_eq ((sortF_perm m).trans h) (sortF_srt m)
theorem sortF_sortF (l : List FileM) : sortF (sortF l) = sortF l := sortF_congr (sortF_perm l)
def hasF (l : List FileM) (n : Int) : Bool := l.any fun f => f.2 == n
theorem hasF_perm {l m : List FileM} (h : l.Perm m) (n : Int) : hasF l n = hasF m n := by
 unfold hasF
 rw [Bool.eq_iff_iff, List.any_eq_true, List.any_eq_true]
 exact ⟨fun ⟨x, h1, h2⟩ => ⟨x, h.mem_iff.1 h1, h2⟩, fun ⟨x, h1, h2⟩ => ⟨x, h.mem_iff.2 h1, h2⟩⟩
structure VM where
 files : List FileM
 wal : Int
 next : Int
 seq : Int
structure EM where
 add : List FileM
 del : List Int
 wal : Int
 next : Int
 seq : Int
def okAdd (f : FileM) : Bool := !(decide (f.2 < 1) || decide (f.1 < 0) || decide (1 < f.1))
def okDel (n : Int) : Bool := !decide (n < 1)
def rightE (e : EM) : Bool := e.add.all okAdd && e.del.all okDel && decide (0 ≤ e.wal ∧ 0 ≤ e.next ∧ 0 ≤ e.seq)
def delOK (e : EM) (fs : List FileM) : Bool := e.del.all fun n => decide (e.del.count n = 1) && hasF fs n
def addAll (next : Int) : List FileM → List FileM → Option (List FileM)
 |fs, [] => some fs
 |fs, f :: r => if next ≤ f.2 ∨ hasF fs f.2 = true then none else addAll next (fs ++ [f]) r
def keepF (e : EM) (fs : List FileM) : List FileM := fs.filter fun f => !e.del.contains f.2
def startOK (v : VM) (e : EM) : Bool := rightE e && decide (v.next ≤ e.next) && decide (v.seq ≤ e.seq)
def applyM (v : VM) (e : EM) : Option VM :=
 if startOK v e && delOK e v.files then (addAll e.next (keepF e v.files) e.add).map fun fs => ⟨sortF fs, e.wal, e.next, e.seq⟩ else none
def applyAll : VM → List EM → Option VM
 |v, [] => some v
 |v, e :: r => match applyM v e with
  |none => none
  |some v' => applyAll v' r
def sortV (v : VM) : VM := { v with files := sortF v.files }
theorem addAll_perm (next : Int) : ∀ (r fs gs : List FileM), fs.Perm gs → (addAll next fs r = none ∧ addAll next gs r = none) ∨ ∃ a b, addAll next fs r = some a ∧ addAll next gs r = some b ∧ a.Perm b
 |[], fs, gs, h => .inr ⟨fs, gs, rfl, rfl, h⟩
 |f :: r, fs, gs, h => by
  unfold addAll
  rw [hasF_perm h]
  by_cases hc : next ≤ f.2 ∨ hasF gs f.2 = true
  ·rw [if_pos hc, if_pos hc]; exact .inl ⟨rfl, rfl⟩
  ·rw [if_neg hc, if_neg hc]
   exact addAll_perm next r _ _ (h.append_right [f])
theorem applyM_sort (v : VM) (e : EM) : applyM (sortV v) e = applyM v e := by
 unfold applyM
 have h1 : delOK e (sortV v).files = delOK e v.files := by
  unfold delOK
  simp only [sortV, hasF_perm (sortF_perm v.files)]
 have h2 : startOK (sortV v) e = startOK v e := rfl
 rw [h1, h2]
 split
 ·have h3 : (keepF e (sortV v).files).Perm (keepF e v.files) := (sortF_perm v.files).filter _
  rcases addAll_perm e.next e.add _ _ h3 with ⟨e1, e2⟩ | ⟨a, b, e1, e2, hp⟩
  ·rw [e1, e2]
  ·rw [e1, e2]; simp only [kD]; rw [sortF_congr hp]
 ·rfl
theorem addAll_len (next : Int) : ∀ (r fs a : List FileM), addAll next fs r = some a → a.length = fs.length + r.length
 |[], fs, a, h => by cases h; rfl
 |f :: r, fs, a, h => by
  unfold addAll at h
  split at h
  ·cases h
  ·have := addAll_len next r _ _ h
   rw [kAa, kBv] at this
   rw [kAe]; omega
theorem applyM_len {v v' : VM} {e : EM} (h : applyM v e = some v') : v'.files.length ≤ v.files.length + e.add.length := by
 unfold applyM at h
 split at h
 ·cases ha : addAll e.next (keepF e v.files) e.add with
  |none => rw [ha] at h; cases h
  |some a =>
   rw [ha] at h
   simp only [kD, Option.some.injEq] at h
   subst h
   have := addAll_len _ _ _ _ ha
   have h2 : (keepF e v.files).length ≤ v.files.length := List.length_filter_le _ _
   simp only [sortF_len]; omega
 ·cases h
theorem applyM_sorted {v v' : VM} {e : EM} (h : applyM v e = some v') : sortV v' = v' := by
 unfold applyM at h
 split at h
 ·cases ha : addAll e.next (keepF e v.files) e.add with
  |none => rw [ha] at h; cases h
  |some a =>
   rw [ha] at h
   simp only [kD, Option.some.injEq] at h
   subst h
   simp only [sortV, sortF_sortF]
 ·cases h
def Cnt (kvs : List (Int × Int)) (l : List Int) : Prop := ∀ n, (kget n kvs).getD 0 = (l.count n : Int)
theorem Cnt.nil : Cnt [] [] := fun _ => rfl
theorem Cnt.step {kvs : List (Int × Int)} {l : List Int} (h : Cnt kvs l) (n : Int) : Cnt (kput n ((kget n kvs).getD 0 + 1) kvs) (l ++ [n]) := by
 intro m
 rw [kget_kput, kCl]
 by_cases hm : n = m
 ·subst hm
  rw [if_pos rfl, kBu, h n]
  simp
 ·rw [if_neg (Ne.symm hm), h m, List.count_singleton]
  simp [hm]
theorem hasF_count (fs : List FileM) (n : Int) : ((fs.map (·.2)).count n = 0) ↔ hasF fs n = false := by
 rw [List.count_eq_zero]
 unfold hasF
 rw [List.any_eq_false]
 simp only [kAm, not_exists, not_and, beq_iff_eq]
theorem delOK_of {e : EM} {fs : List FileM} (h1 : e.del.Nodup) (h2 : ∀ n ∈ e.del, hasF fs n = true) : delOK e fs = true := by
 unfold delOK
 rw [kBd]
 intro n hn
 rw [Bool.and_eq_true, decide_eq_true_iff]
 exact ⟨by rw [h1.count, if_pos hn], h2 n hn⟩
theorem delOK_count {e : EM} {fs : List FileM} {n : Int} (hn : n ∈ e.del) (hc : 1 < e.del.count n) : delOK e fs = false := by
 unfold delOK
 rw [List.all_eq_false]
 exact ⟨n, hn, by simp; omega⟩
theorem delOK_has {e : EM} {fs : List FileM} {n : Int} (hn : n ∈ e.del) (hc : hasF fs n = false) : delOK e fs = false := by
 unfold delOK
 rw [List.all_eq_false]
 exact ⟨n, hn, by simp [hc]⟩
theorem count_take_le (l : List Int) (k : Nat) (n : Int) : (l.take k).count n ≤ l.count n := (List.take_sublist k l).count_le n
theorem nodup_snoc {l : List Int} {n : Int} (h : l.Nodup) (hc : (l ++ [n]).count n ≤ 1) : (l ++ [n]).Nodup := by
 rw [kCl, List.count_singleton] at hc
 simp only [beq_self_eq_true, if_true] at hc
 rw [kBw]
 refine ⟨h, by simp, fun a ha b hb => ?_⟩
 rw [kAy] at hb
 subst hb
 intro hab
 subst hab
 have := List.count_pos_iff.2 ha
 omega
theorem keepF_snoc (e : EM) (l : List FileM) (f : FileM) : keepF e (l ++ [f]) = if e.del.count f.2 = 0 then keepF e l ++ [f] else keepF e l := by
 unfold keepF
 rw [kDh]
 by_cases h : f.2 ∈ e.del
 ·have : e.del.count f.2 ≠ 0 := by have := List.count_pos_iff.2 h; omega
  rw [if_neg this]; simp [h]
 ·rw [if_pos (List.count_eq_zero.2 h)]; simp [h]
def addLen (es : List EM) : Nat := (es.map fun e => e.add.length).sum
end Go.Proofs.YtkgibdhpijdbfaaGreatDoor
namespace Go.Eng
open Go
theorem eqlSlNil {P : Program} {T0 : Tbl} (hT : TOk P T0) {t e : TypeId} {sz : Nat} {i : TI} (hi : tf T0 t = some i) (hk : i.k = .slice e sz) {x y : Operand} {a : Option Addr} {n c : Nat} {K : Value → Prop} (hK : K (.bool a.isNone)) :
  PureRun P (do eqGuard .eql t x y (.slice a n c) (.slice none 0 0); binOp .eql t (.slice a n c) (.slice none 0 0)) K := by
 have h := und_of hT hi; rw [hk] at h
 have h2 : P.underlying t = some (.slice e) := h.1
 refine ⟨_, fun w => ?_, hK⟩
 rw [Sem.run_bind, run_eqGuard_of P .eql t x y _ _ w (by intro c h; cases h) (by intro h; cases h)]
 exact Lib.run_eql_slice_nil w t e a n c 0 0 h2
end Go.Eng
namespace Go.Proofs.YtkgibdhpijdbfaaGreatDoor
open Go Go.Eng Go.Proofs
theorem isNaN_spec {w : World} {x : Int} : Cl Tryz.prog f_cmp_isNaN_int [.int .i64 x] w fun v w' => v = .bool false ∧ w = w' := by
 refine en_cmp_isNaN_int rfl ?_
 refine jq ⟨?_⟩
 simp only [decide_true, Bool.not_true]
 refine jq ⟨?_⟩
 exact ⟨rfl, rfl⟩
theorem cmpI_spec {w : World} {x y : Int} : Cl Tryz.prog f_cmp_Compare_int [.int .i64 x, .int .i64 y] w fun v w' => v = .int .i64 (cmpI x y) ∧ w = w' := by
 unfold cmpI
 refine en_cmp_Compare_int rfl ?_
 refine jq ⟨?_⟩
 refine isNaN_spec.mono ?_
 rintro _ _ ⟨rfl, rfl⟩
 refine jq ⟨?_⟩
 refine isNaN_spec.mono ?_
 rintro _ _ ⟨rfl, rfl⟩
 by_cases h1 : x < y
 ·rw [if_pos h1]
  refine jq ⟨?_⟩
  exact ⟨rfl, rfl⟩
 ·rw [if_neg h1]
  by_cases h2 : y < x
  ·rw [if_pos h2]
   refine jq ⟨?_⟩
   exact ⟨rfl, rfl⟩
  ·rw [if_neg h2]
   refine jq ⟨?_⟩
   exact ⟨rfl, rfl⟩
theorem orI_spec {w : World} {g : Nat} {a b : Int} (hh : Holds [(g, .cells ⟨[.int .i64 a, .int .i64 b]⟩ T_int (0, 0))] w) :
  Cl Tryz.prog f_cmp_Or_int [.slice (some ⟨g, 0, none⟩) 2 2] w fun v w' => v = .int .i64 (if a = 0 then b else a) ∧ St w [g] [(g, .cells ⟨[.int .i64 a, .int .i64 b]⟩ T_int (0, 0))] w' := by
 have hS : St w [g] [(g, .cells ⟨[.int .i64 a, .int .i64 b]⟩ T_int (0, 0))] w := St.enter hh
 refine en_cmp_Or_int rfl ?_
 refine jq ⟨?_⟩
 refine SemW.loop (fun k : Nat => [(3, .int .i64 0), (6, .slice (some ⟨g, 0, none⟩) 2 2), (7, .int .i64 2), (8, .int .i64 k)])
  (fun k w' => (k ≤ 2 ∧ (0 < k → a = 0) ∧ (1 < k → b = 0)) ∧ St w [g] [(g, .cells ⟨[.int .i64 a, .int .i64 b]⟩ T_int (0, 0))] w') (fun k => 2 - k) 0
  ⟨rfl, rfl, rfl, rfl, trivial⟩ ⟨⟨by omega, nofun, nofun⟩, hS⟩ ?_
 clear hS
 rintro k w1 ⟨⟨hk, h1, h2⟩, hS⟩
 match k, hk, h1, h2 with
 |0, hk, h1, h2 =>
  (repeat (refine jt ⟨?_⟩; refine hS.st rfl rfl ?_; intro _ hS)); refine jt ⟨?_⟩
  by_cases ha : a = 0
  ·(repeat (refine jt ⟨?_⟩; refine hS.st rfl rfl ?_; intro _ hS)); refine jt ⟨?_⟩
   exact ⟨1, ⟨rfl, rfl, rfl, rfl, trivial⟩, ⟨⟨by omega, fun _ => ha, nofun⟩, hS⟩, by omega⟩
  ·rw [if_neg ha]
   (repeat (refine jt ⟨?_⟩; refine hS.st rfl rfl ?_; intro _ hS)); refine jt ⟨?_⟩
   exact ⟨rfl, hS⟩
 |1, hk, h1, h2 =>
  have ha := h1 (by omega)
  rw [if_pos ha]
  (repeat (refine jt ⟨?_⟩; refine hS.st rfl rfl ?_; intro _ hS)); refine jt ⟨?_⟩
  by_cases hb : b = 0
  ·(repeat (refine jt ⟨?_⟩; refine hS.st rfl rfl ?_; intro _ hS)); refine jt ⟨?_⟩
   exact ⟨2, ⟨rfl, rfl, rfl, rfl, trivial⟩, ⟨⟨by omega, fun _ => ha, fun _ => hb⟩, hS⟩, by omega⟩
  ·(repeat (refine jt ⟨?_⟩; refine hS.st rfl rfl ?_; intro _ hS)); refine jt ⟨?_⟩
   exact ⟨rfl, hS⟩
 |2, hk, h1, h2 =>
  have ha := h1 (by omega)
  have hb := h2 (by omega)
  rw [if_pos ha]
  subst hb
  (repeat (refine jt ⟨?_⟩; refine hS.st rfl rfl ?_; intro _ hS)); refine jt ⟨?_⟩
  exact ⟨rfl, hS⟩
end Go.Proofs.YtkgibdhpijdbfaaGreatDoor
namespace Go.Proofs.YtkgibdhpijdbfaaGreatDoor
open Go Go.Eng Go.Proofs Go.Srt
set_option maxHeartbeats 2000000 in
theorem cmF_spec (x y : FileM) (w : World) : Cl Tryz.prog f_manifest_sorted_1 [fileV x, fileV y] w fun v w' => v = .int .i64 (cmF x y) ∧ St w [] [] w' := by
 have hS := St.start w
 unfold fileV fileC
 refine en_manifest_sorted_1 rfl ?_
 refine jq ⟨?_⟩
 refine hS.al ?_
 intro b2 w2 _ hS
 refine jq ⟨?_⟩
 refine hS.al ?_
 intro b3 w3 _ hS
 refine jq ⟨?_⟩
 refine SemW.draw tblOk mixed (fun w' => St w [] [(b3, .cells ⟨[.int .i64 y.1, .int .i64 y.2]⟩ T_api_File (0, 0)), (b2, .cells ⟨[.int .i64 x.1, .int .i64 x.2]⟩ T_api_File (0, 0))] w') [11, 12] [0, 1, 2, 3, 5, 6, 7, 8, 4, 9, 10, 11, 12] (by kernel_rfl) hS.drew ?_
 have hS := hS.drew
 generalize w3.drew = w4 at hS
 refine jr ⟨?_⟩
 refine cmpI_spec.mono ?_
 rintro _ _ ⟨rfl, rfl⟩
 refine Chk.mk hS ?_
 refine jr ⟨?_⟩
 refine cmpI_spec.mono ?_
 rintro _ _ ⟨rfl, rfl⟩
 refine Chk.mk hS ?_
 refine jr ⟨?_⟩
 refine hS.al ?_
 intro g w5 _ hS
 refine Chk.mk (hS.sub (kAb _ _)) ?_
 refine jr ⟨?_⟩
 refine (orI_spec (hS.part (L := [(g, .cells ⟨[.int .i64 (cmpI x.1 y.1), .int .i64 (cmpI x.2 y.2)]⟩ T_int (0, 0))]))).mono ?_
 rintro _ w6 ⟨rfl, hS'⟩
 have hS := hS.call (L := [(g, .cells ⟨[.int .i64 (cmpI x.1 y.1), .int .i64 (cmpI x.2 y.2)]⟩ T_int (0, 0))]) hS'
 refine jr ⟨?_⟩
 refine jq ⟨?_⟩
 exact ⟨rfl, hS.nil⟩
structure FilesAt (w : World) (a : Option Addr) (cap : Nat) (l : List FileM) : Prop where
 arr : Arr w [] a (l.flatMap fileC)
 cap : l.length ≤ cap
theorem FilesAt.keep {w0 w : World} {H : Heap} (hS : St w0 [] H w) {a : Option Addr} {cap : Nat} {l : List FileM} (h : FilesAt w0 a cap l) : FilesAt w a cap l := ⟨hS.arrOld h.arr, h.cap⟩
theorem FilesAt.nil (w : World) : FilesAt w none 0 [] := ⟨Arr.nil _ _ _, kAd _⟩
theorem filesC_len (l : List FileM) : (l.flatMap fileC).length = l.length * 2 := flat_lenE (cv := fileC) (sz := 2) (fun _ => rfl) l
theorem filesC_one (l : List FileM) : (l.flatMap fileC).all Value.oneCell' = true := by
 induction l with
 |nil => rfl
 |cons p ps ih => rw [kBo, List.all_append, ih]; rfl
theorem files_app (p q : List FileM) : (p ++ q).flatMap fileC = p.flatMap fileC ++ q.flatMap fileC := kCm
theorem FilesAt.pos {w : World} {a : Option Addr} {cap : Nat} {l : List FileM} (h : FilesAt w a cap l) (hl : 0 < l.length) : ∃ g off, a = some ⟨g, off, none⟩ := by
 have := filesC_len l
 obtain ⟨g, off, hg, -, -⟩ := h.arr.get (j := 0) (by omega)
 exact ⟨g, off, hg⟩
theorem filesAt_vec {w0 w : World} {T : List Nat} {H L : Heap} {F : Heap → Heap} (hS : St w0 T H w) [hc : Chunk H L F] {a : Option Addr} {n cap : Nat} {l : List FileM} (hv : Vec T_api_File 2 a n cap (l.flatMap fileC) L) : FilesAt w a cap l := by
 have h1 := filesC_len l
 have h2 := hv.len
 exact ⟨hv.arr hS (by simp), by have := hv.cap; omega⟩
set_option maxHeartbeats 2000000 in
theorem Clone_spec {w : World} {a : Option Addr} {cap : Nat} {l : List FileM} (ha : FilesAt w a cap l) (hlen : l.length ≤ 16777216) :
  Cl Tryz.prog f_slices_Clone_api_File_api_File [.slice a l.length cap] w fun v w' => ∃ a' c' L, v = .slice a' l.length c' ∧ Vec T_api_File 2 a' l.length c' (l.flatMap fileC) L ∧ St w [] L w' := by
 have hS := St.start w
 refine en_slices_Clone_api_File_api_File rfl ?_
 rcases a with _ | p
 ·have hl : l = [] := by
   cases l with
   |nil => rfl
   |cons x l => obtain ⟨g, off, h⟩ := ha.pos (by simp); cases h
  subst hl
  refine jq ⟨?_⟩
  refine eqlSlNil tblOk rfl rfl ?_
  refine jq ⟨?_⟩
  exact ⟨_, _, [], rfl, Vec.nil, hS⟩
 ·refine jq ⟨?_⟩
  refine eqlSlNil tblOk rfl rfl ?_
  refine jq ⟨?_⟩
  refine hS.al ?_
  intro r w1 _ hS
  have hv : Vec T_api_File 2 (some ⟨r, 0, none⟩) 0 0 [] [(r, .cells ⟨[]⟩ T_api_File (0, 0))] := Vec.row r 0 0 [] [] rfl rfl (kAd _)
  refine jq ⟨?_⟩
  refine St.app (sz := 2) (m := l.length) tblOk rfl rfl rfl rfl hS hv (news := l.flatMap fileC) (filesC_len l) (hS.arrOld ha.arr) (filesC_one l) (by show (_ + _) * 16 ≤ _; omega) (by omega) ?_
  intro a1 c1 L1 w2 hv hS
  rw [kBj, kBl] at hv
  rw [kBl]
  refine jq ⟨?_⟩
  exact ⟨a1, c1, L1, rfl, hv, hS⟩
theorem cmF_ord : Ord fun x y => decide (cmF x y < 0) := ordF
set_option maxHeartbeats 2000000 in
theorem sorted_spec {w : World} {a : Option Addr} {cap : Nat} {l : List FileM} (ha : FilesAt w a cap l) (hlen : l.length ≤ 16777216) :
  Cl Tryz.prog f_manifest_sorted [.slice a l.length cap] w fun v w' => ∃ a' c' L, v = .slice a' (sortF l).length c' ∧ Vec T_api_File 2 a' (sortF l).length c' ((sortF l).flatMap fileC) L ∧ St w [] L w' := by
 have hS := St.start w
 refine en_manifest_sorted rfl ?_
 refine jq ⟨?_⟩
 refine (Clone_spec ha hlen).mono ?_
 rintro _ w1 ⟨a1, c1, L, rfl, hv, hS'⟩
 have hS := hS'
 have hcl := filesC_len l
 rcases hv.inv with ⟨rfl, hl0, rfl, -, rfl⟩ | ⟨g, tl, rfl, -, hc2, hc1, rfl⟩
 ·have hl : l = [] := kCh.1 hl0
  subst hl
  refine jq ⟨?_⟩
  refine sortNil_api_File.mono ?_
  intro _ w2 hS'
  have hS := hS.call0 hS'
  refine jq ⟨?_⟩
  exact ⟨none, 0, [], rfl, Vec.nil, hS⟩
 ·refine jq ⟨?_⟩
  refine (sortStable_api_File cmF_ord cmF_spec hS.holds rfl hlen).mono ?_
  rintro _ w2 ⟨l', hp, hs, hS'⟩
  have hS := hS.call1 hS'
  have hl' := sortF_eq hp hs
  subst hl'
  have hv : Vec T_api_File 2 (some ⟨g, 0, none⟩) (sortF l).length c1 ((sortF l).flatMap fileC) [(g, .cells ⟨(sortF l).flatMap fileC ++ tl⟩ T_api_File (0, 0))] := by
   exact Vec.row g _ c1 _ tl (filesC_len _) (by rw [filesC_len, sortF_len]; omega) (by rw [sortF_len]; exact hc1)
  rw [← sortF_len l]
  refine jq ⟨?_⟩
  exact ⟨_, _, _, rfl, hv, hS⟩
structure EditAt (w : World) (a b : Option Addr) (ca cb : Nat) (e : EM) : Prop where
 add : FilesAt w a ca e.add
 del : Arr w [] b (e.del.map intV)
 dcap : e.del.length ≤ cb
 len : e.add.length + e.del.length ≤ 16777216
 rng : -9223372036854775808 ≤ e.wal ∧ e.wal ≤ 9223372036854775807 ∧ -9223372036854775808 ≤ e.next ∧ e.next ≤ 9223372036854775807 ∧ -9223372036854775808 ≤ e.seq ∧ e.seq ≤ 9223372036854775807
theorem EditAt.keep {w0 w : World} {H : Heap} (hS : St w0 [] H w) {a b : Option Addr} {ca cb : Nat} {e : EM} (h : EditAt w0 a b ca cb e) : EditAt w a b ca cb e := ⟨h.add.keep hS, hS.arrOld h.del, h.dcap, h.len, h.rng⟩
def editC (a b : Option Addr) (ca cb : Nat) (e : EM) : List Value := [.slice a e.add.length ca, .slice b e.del.length cb, .int .i64 e.wal, .int .i64 e.next, .int .i64 e.seq]
theorem FilesAt.at {w : World} {a : Option Addr} {cap : Nat} {l : List FileM} (_h : FilesAt w a cap l) {k : Nat} (hk : k < l.length) : ((l.flatMap fileC).drop (k * 2)).take 2 = fileC l[k] := by
 have := flat_atE (cv := fileC) (sz := 2) (fun _ => rfl) l [] k hk
 rwa [kAk] at this
set_option maxHeartbeats 4000000 in
theorem right_spec {w : World} {a b : Option Addr} {ca cb : Nat} {e : EM} (he : EditAt w a b ca cb e) :
  Cl Tryz.prog f_manifest_right [.agg ⟨editC a b ca cb e⟩] w fun v w' => v = .bool (rightE e) ∧ St w [] [] w' := by
 have hS := St.start w
 have hl := he.len
 have hcl := filesC_len e.add
 unfold editC
 refine en_manifest_right rfl ?_
 refine jq ⟨?_⟩
 refine hS.al ?_
 intro b1 w1 _ hS
 (repeat (refine jt ⟨?_⟩; refine hS.st rfl rfl ?_; intro _ hS)); refine jt ⟨?_⟩
 refine SemW.loop (fun k : Nat => [(1, ptr b1), (8, .slice a e.add.length ca), (9, .int .i64 e.add.length), (10, .int .i64 k)])
  (fun k w' => (k ≤ e.add.length ∧ (e.add.take k).all okAdd = true) ∧ St w [] [(b1, .cells ⟨editC a b ca cb e⟩ T_api_Edit (0, 0))] w') (fun k => e.add.length - k) 0
  ⟨rfl, rfl, rfl, rfl, trivial⟩ ⟨⟨kAg _, rfl⟩, hS⟩ ?_
 clear hS
 rintro k w2 ⟨⟨hk, hok⟩, hS⟩
 by_cases hkl : k < e.add.length
 ·obtain ⟨g, off, rfl⟩ := he.add.pos (by omega)
  have hat := he.add.at hkl
  have hsucc := kAn hkl
  have hmem : e.add[k] ∈ e.add := kAx hkl
  generalize e.add[k] = f at hat hsucc hmem
  refine jq ⟨?_⟩
  refine Arr.ldn hS he.add.arr rfl (k := k * 2) hat rfl ?_
  unfold fileC
  refine jq ⟨?_⟩
  refine hS.al ?_
  intro b4 w3 _ hS
  by_cases hf : okAdd f = true
  ·have hf' := hf
   simp only [okAdd, Bool.not_eq_true', Bool.or_eq_false_iff, decide_eq_false_iff_not] at hf'
   obtain ⟨⟨h1, h2⟩, h3⟩ := hf'
   (repeat (refine jt ⟨?_⟩; refine hS.st rfl rfl ?_; intro _ hS)); refine jt ⟨?_⟩
   refine ⟨k + 1, ⟨rfl, rfl, rfl, rfl, trivial⟩, ⟨⟨by omega, ?_⟩, hS.sub (kAb _ _)⟩, by omega⟩
   rw [hsucc, List.all_append, hok]
   simp [hf]
  ·have hr : rightE e = false := by
    have : e.add.all okAdd = false := by
     rw [List.all_eq_false]
     exact ⟨f, hmem, hf⟩
    simp [rightE, this]
   have hf' : f.2 < 1 ∨ f.1 < 0 ∨ 1 < f.1 := by
    simp only [okAdd, Bool.not_eq_true, Bool.not_eq_false', Bool.or_eq_true, decide_eq_true_iff] at hf; omega
   rw [hr]
   by_cases h1 : f.2 < 1
   ·(repeat (refine jt ⟨?_⟩; refine hS.st rfl rfl ?_; intro _ hS)); refine jt ⟨?_⟩
    exact ⟨rfl, hS.nil⟩
   ·by_cases h2 : f.1 < 0
    ·(repeat (refine jt ⟨?_⟩; refine hS.st rfl rfl ?_; intro _ hS)); refine jt ⟨?_⟩
     exact ⟨rfl, hS.nil⟩
    ·(repeat (refine jt ⟨?_⟩; refine hS.st rfl rfl ?_; intro _ hS)); refine jt ⟨?_⟩
     exact ⟨rfl, hS.nil⟩
 ·have hke : k = e.add.length := by omega
  rw [hke, kAr] at hok
  unfold editC at hS
  (repeat (refine jt ⟨?_⟩; refine hS.st rfl rfl ?_; intro _ hS)); refine jt ⟨?_⟩
  refine SemW.loop (fun k : Nat => [(1, ptr b1), (29, .slice b e.del.length cb), (30, .int .i64 e.del.length), (31, .int .i64 k)])
   (fun k w' => (k ≤ e.del.length ∧ (e.del.take k).all okDel = true) ∧ St w [] [(b1, .cells ⟨editC a b ca cb e⟩ T_api_Edit (0, 0))] w') (fun k => e.del.length - k) 0
   ⟨rfl, rfl, rfl, rfl, trivial⟩ ⟨⟨kAg _, rfl⟩, hS⟩ ?_
  clear hS
  rintro k w2 ⟨⟨hk, hok2⟩, hS⟩
  by_cases hkl : k < e.del.length
  ·have hx : (e.del.map intV)[k]? = some (intV e.del[k]) := by rw [kCo, kAp hkl]; rfl
   obtain ⟨g, off, rfl, -, -⟩ := he.del.get (j := k) (by rw [kAv]; exact hkl)
   have hsucc := kAn hkl
   have hmem : e.del[k] ∈ e.del := kAx hkl
   generalize e.del[k] = n at hx hsucc hmem
   by_cases hn : n < 1
   ·have hr : rightE e = false := by
     have : e.del.all okDel = false := by
      rw [List.all_eq_false]
      exact ⟨n, hmem, by simp [okDel, hn]⟩
     simp [rightE, this]
    rw [hr]
    refine jq ⟨?_⟩
    refine Arr.ldc hS he.del hx (by simp) ?_
    unfold intV
    refine jq ⟨?_⟩
    exact ⟨rfl, hS.nil⟩
   ·refine jq ⟨?_⟩
    refine Arr.ldc hS he.del hx (by simp) ?_
    unfold intV
    refine jq ⟨?_⟩
    refine ⟨k + 1, ⟨rfl, rfl, rfl, rfl, trivial⟩, ⟨⟨by omega, ?_⟩, hS⟩, by omega⟩
    rw [hsucc, List.all_append, hok2]
    simp [okDel, hn]
  ·have hke : k = e.del.length := by omega
   rw [hke, kAr] at hok2
   have hr : rightE e = decide (0 ≤ e.wal ∧ 0 ≤ e.next ∧ 0 ≤ e.seq) := by simp [rightE, hok, hok2]
   rw [hr]
   unfold editC at hS
   (repeat (refine jt ⟨?_⟩; refine hS.st rfl rfl ?_; intro _ hS)); refine jt ⟨?_⟩
   refine jq ⟨?_⟩
   refine ⟨?_, hS.nil⟩
   rw [Value.bool.injEq, decide_eq_decide]
   unfold mnI
   split <;> split <;> omega
theorem St.tl2 {w0 w : World} {T : List Nat} {p q : Nat × Obj} {R : Heap} (hS : St w0 T (p :: q :: R) w) : St w0 T R w := hS.sub ((kAb _ _).trans (kAb _ _))
theorem St.tl1 {w0 w : World} {T : List Nat} {p : Nat × Obj} {R : Heap} (hS : St w0 T (p :: R) w) : St w0 T R w := hS.sub (kAb _ _)
theorem St.midA {w0 w : World} {T : List Nat} {q : Nat × Obj} {L2 L R : Heap} (hS : St w0 T (L2 ++ q :: (L ++ R)) w) : St w0 T (L2 ++ R) w := hS.sub (List.Sublist.append_left ((kAj L R).trans (kAb q _)) L2)
theorem sameN_spec {w : World} {b : Nat} {f : FileM} (hf : Arr w [] (some ⟨b, 0, none⟩) (fileC f)) (x : FileM) : Cl Tryz.prog f_manifest_apply_1 [fileV x, ptr b] w fun v w' => v = .bool (x.2 == f.2) ∧ St w [] [] w' := by
 have hS := St.start w
 unfold fileV fileC
 refine en_manifest_apply_1 rfl ?_
 refine jq ⟨?_⟩
 refine hS.al ?_
 intro b2 w2 _ hS
 (repeat (refine jt ⟨?_⟩; refine hS.st rfl rfl ?_; intro _ hS)); refine jt ⟨?_⟩
 refine Arr.ldc hS hf (j := 1) (v := .int .i64 f.2) rfl rfl ?_
 (repeat (refine jt ⟨?_⟩; refine hS.st rfl rfl ?_; intro _ hS)); refine jt ⟨?_⟩
 refine ⟨?_, hS.nil⟩
 rw [Value.bool.injEq]; rfl
def appF (b : Nat) : Value := .func (.func f_manifest_apply_1) ⟨[]⟩ ⟨[ptr b]⟩
theorem indexF_spec {w : World} {a : Option Addr} {cap b : Nat} {l : List FileM} {f : FileM} (ha : FilesAt w a cap l) (hf : Arr w [] (some ⟨b, 0, none⟩) (fileC f)) (hlen : l.length ≤ 16777216) :
  Cl Tryz.prog f_slices_IndexFunc_api_File_api_File [.slice a l.length cap, appF b] w fun v w' => (∃ n, v = .int .i64 n ∧ (0 ≤ n ↔ hasF l f.2 = true)) ∧ St w [] [] w' := by
 have hS := St.start w
 have hcl := filesC_len l
 refine en_slices_IndexFunc_api_File_api_File rfl ?_
 refine jq ⟨?_⟩
 refine SemW.loop (fun k : Nat => [(0, .slice a l.length cap), (1, appF b), (7, .int .i64 l.length), (8, .int .i64 k)])
  (fun k w' => (k ≤ l.length ∧ hasF (l.take k) f.2 = false) ∧ St w [] [] w') (fun k => l.length - k) 0
  ⟨rfl, rfl, rfl, rfl, trivial⟩ ⟨⟨kAg _, rfl⟩, hS⟩ ?_
 clear hS
 rintro k w1 ⟨⟨hk, hno⟩, hS⟩
 by_cases hkl : k < l.length
 ·obtain ⟨g, off, rfl⟩ := ha.pos (by omega)
  have hat := ha.at hkl
  have hsucc := kAn hkl
  have hmem : l[k] ∈ l := kAx hkl
  generalize l[k] = x at hat hsucc hmem
  unfold appF
  refine jq ⟨?_⟩
  refine Arr.ldn hS ha.arr rfl (k := k * 2) hat rfl ?_
  refine jq ⟨?_⟩
  refine (sameN_spec (hS.arrOld hf) x).mono ?_
  rintro _ w2 ⟨rfl, hS'⟩
  have hS := hS.call0 hS'
  by_cases hx : x.2 = f.2
  ·rw [beq_iff_eq.2 hx]
   refine jq ⟨?_⟩
   refine ⟨⟨_, rfl, ?_⟩, hS⟩
   have : hasF l f.2 = true := by
    unfold hasF
    rw [List.any_eq_true]
    exact ⟨x, hmem, beq_iff_eq.2 hx⟩
   rw [this]; simp
  ·rw [beq_eq_false_iff_ne.2 hx]
   refine jq ⟨?_⟩
   refine ⟨k + 1, ⟨rfl, rfl, rfl, rfl, trivial⟩, ⟨⟨by omega, ?_⟩, hS⟩, by omega⟩
   rw [hsucc]
   unfold hasF at hno ⊢
   rw [List.any_append, hno]
   simp [hx]
 ·have hke : k = l.length := by omega
  rw [hke, kAr] at hno
  refine jq ⟨?_⟩
  refine ⟨⟨_, rfl, ?_⟩, hS⟩
  rw [hno]; simp
theorem containsF_spec {w : World} {a : Option Addr} {cap b : Nat} {l : List FileM} {f : FileM} (ha : FilesAt w a cap l) (hf : Arr w [] (some ⟨b, 0, none⟩) (fileC f)) (hlen : l.length ≤ 16777216) :
  Cl Tryz.prog f_slices_ContainsFunc_api_File_api_File [.slice a l.length cap, appF b] w fun v w' => v = .bool (hasF l f.2) ∧ St w [] [] w' := by
 refine en_slices_ContainsFunc_api_File_api_File rfl ?_
 unfold appF
 refine jq ⟨?_⟩
 refine (indexF_spec ha hf hlen).mono ?_
 rintro _ w1 ⟨⟨n, rfl, hn⟩, hS⟩
 refine jq ⟨?_⟩
 refine ⟨?_, hS⟩
 rw [Value.bool.injEq, Bool.eq_iff_iff, decide_eq_true_iff]
 exact hn
def versC (a : Option Addr) (ca : Nat) (v : VM) : List Value := [.slice a v.files.length ca, .int .i64 v.wal, .int .i64 v.next, .int .i64 v.seq]
structure VersAt (w : World) (a : Option Addr) (ca : Nat) (v : VM) : Prop where
 files : FilesAt w a ca v.files
 rng : -9223372036854775808 ≤ v.wal ∧ v.wal ≤ 9223372036854775807 ∧ -9223372036854775808 ≤ v.next ∧ v.next ≤ 9223372036854775807 ∧ -9223372036854775808 ≤ v.seq ∧ v.seq ≤ 9223372036854775807
def zeroV : VM := ⟨[], 0, 0, 0⟩
structure VersV (a : Option Addr) (ca : Nat) (v : VM) (L : Heap) : Prop where
 vec : Vec T_api_File 2 a v.files.length ca (v.files.flatMap fileC) L
 rng : -9223372036854775808 ≤ v.wal ∧ v.wal ≤ 9223372036854775807 ∧ -9223372036854775808 ≤ v.next ∧ v.next ≤ 9223372036854775807 ∧ -9223372036854775808 ≤ v.seq ∧ v.seq ≤ 9223372036854775807
theorem VersV.at {w0 w : World} {T : List Nat} {H L : Heap} {F : Heap → Heap} {a : Option Addr} {ca : Nat} {v : VM} (h : VersV a ca v L) (hS : St w0 T H w) [hc : Chunk H L F] : VersAt w a ca v := ⟨filesAt_vec hS h.vec, h.rng⟩
def ApplyPost (o : Option VM) (r : Value) (w w' : World) : Prop := match o with
 |none => r = .tuple ⟨[.agg ⟨versC none 0 zeroV⟩, .bool false]⟩ ∧ St w [] [] w'
 |some v' => ∃ a' c' L, r = .tuple ⟨[.agg ⟨versC a' c' v'⟩, .bool true]⟩ ∧ VersV a' c' v' L ∧ St w [] L w'
structure FI where
 fs : List FileM
 k : Nat
 a : Option Addr
 c : Nat
set_option maxHeartbeats 16000000 in
set_option maxRecDepth 4000 in
theorem apply_spec {w : World} {a x y : Option Addr} {ca cx cy : Nat} {v : VM} {e : EM} (hv : VersAt w a ca v) (he : EditAt w x y cx cy e) (hlen : v.files.length + e.add.length ≤ 16777216) :
  Cl Tryz.prog f_manifest_apply [.agg ⟨versC a ca v⟩, .agg ⟨editC x y cx cy e⟩] w fun r w' => ApplyPost (applyM v e) r w w' := by
 have hS := St.start w
 have hel := he.len
 have her := he.rng
 have hvr := hv.rng
 unfold versC editC
 refine en_manifest_apply rfl ?_
 refine jq ⟨?_⟩
 refine hS.al ?_
 intro b2 w1 _ hS
 refine jq ⟨?_⟩
 refine hS.al ?_
 intro b3 w2 _ hS
 refine jq ⟨?_⟩
 refine hS.al ?_
 intro b4 w3 _ hS
 (repeat (refine jt ⟨?_⟩; refine hS.st rfl rfl ?_; intro _ hS)); refine jt ⟨?_⟩
 refine (right_spec (he.keep hS)).mono ?_
 rintro _ w4 ⟨rfl, hS'⟩
 have hS := hS.call0 hS'
 by_cases hr : rightE e = true
 ·rw [hr]
  by_cases hn : e.next < v.next
  ·have hnone : applyM v e = none := by
    unfold applyM startOK
    rw [show decide (v.next ≤ e.next) = false from decide_eq_false (by omega)]; simp
   (repeat (refine jt ⟨?_⟩; refine hS.st rfl rfl ?_; intro _ hS)); refine jt ⟨?_⟩
   rw [hnone]; exact ⟨rfl, hS.nil⟩
  ·by_cases hs : e.seq < v.seq
   ·have hnone : applyM v e = none := by
     unfold applyM startOK
     rw [show decide (v.seq ≤ e.seq) = false from decide_eq_false (by omega)]; simp
    (repeat (refine jt ⟨?_⟩; refine hS.st rfl rfl ?_; intro _ hS)); refine jt ⟨?_⟩
    rw [hnone]; exact ⟨rfl, hS.nil⟩
   ·have hst : startOK v e = true := by
     unfold startOK
     rw [hr, decide_eq_true (show v.next ≤ e.next by omega), decide_eq_true (show v.seq ≤ e.seq by omega)]; rfl
    (repeat (refine jt ⟨?_⟩; refine hS.st rfl rfl ?_; intro _ hS)); refine jt ⟨?_⟩
    refine hS.al ?_
    intro m6 w5 _ hS
    (repeat (refine jt ⟨?_⟩; refine hS.st rfl rfl ?_; intro _ hS)); refine jt ⟨?_⟩
    refine hS.al ?_
    intro m7 w6 _ hS
    (repeat (refine jt ⟨?_⟩; refine hS.st rfl rfl ?_; intro _ hS)); refine jt ⟨?_⟩
    refine SemW.loop (fun k : Nat => [(2, ptr b2), (3, ptr b3), (4, ptr b4), (6, .map (some m6)), (7, .map (some m7)), (38, .slice a v.files.length ca), (39, .int .i64 v.files.length), (40, .int .i64 k)])
     (fun k w' => k ≤ v.files.length ∧ ∃ es c kvs, MapC intV intV es c kvs ∧ Cnt kvs ((v.files.take k).map (·.2)) ∧ St w [] [(m7, .map #[] 0), (m6, .map es c), (b4, .cells ⟨[.slice none 0 0, .int .i64 0, .int .i64 0, .int .i64 0]⟩ T_api_Version (0, 0)), (b3, .cells ⟨[.slice x e.add.length cx, .slice y e.del.length cy, .int .i64 e.wal, .int .i64 e.next, .int .i64 e.seq]⟩ T_api_Edit (0, 0)), (b2, .cells ⟨[.slice a v.files.length ca, .int .i64 v.wal, .int .i64 v.next, .int .i64 v.seq]⟩ T_api_Version (0, 0))] w') (fun k => v.files.length - k) 0
     ⟨rfl, rfl, rfl, rfl, rfl, rfl, rfl, rfl, trivial⟩ ⟨kAg _, #[], 0, [], ⟨rfl, by simp [Stamp]⟩, Cnt.nil, hS⟩ ?_
    clear hS
    rintro k w7 ⟨hk, es, c, kvs, hm, hct, hS⟩
    have hkc := hct
    by_cases hkl : k < v.files.length
    ·obtain ⟨g, off, rfl⟩ := hv.files.pos (by omega)
     have hat := hv.files.at hkl
     have hsucc := kAn hkl
     generalize v.files[k] = f at hat hsucc
     refine jq ⟨?_⟩
     refine Arr.ldn hS hv.files.arr rfl (k := k * 2) hat rfl ?_
     unfold fileC
     refine jq ⟨?_⟩
     refine hS.al ?_
     intro b9 w8 _ hS
     have hcn := hct f.2
     have hcl : ((v.files.take k).map (·.2)).count f.2 ≤ k := by
      refine kBb (List.count_le_length) ?_
      rw [kAv, kAo]; omega
     (repeat (refine jt ⟨?_⟩; refine hS.st rfl rfl ?_; intro _ hS)); refine jt ⟨?_⟩
     refine lookI (kvs := kvs) (fun w'' hw' => ⟨es, c, by subst hw'; exact hS.mem (b := m6), hm.of⟩) ?_
     generalize hz : (kget f.2 kvs).getD 0 = z at hcn
     (repeat (refine jt ⟨?_⟩; refine hS.st rfl rfl ?_; intro _ hS)); refine jt ⟨?_⟩
     refine St.mapSet tblOk KEnc.i64 rfl rfl und_int hS (v := z + 1) hm ?_
     intro es2 c2 w9 hm2 hS
     refine jq ⟨?_⟩
     refine ⟨k + 1, ⟨rfl, rfl, rfl, rfl, rfl, rfl, rfl, rfl, trivial⟩, ⟨by omega, es2, c2, _, hm2, ?_, hS.sub (kAb _ _)⟩, by omega⟩
     rw [hsucc, kAi, ← hz]
     exact hct.step f.2
    ·have hke : k = v.files.length := by omega
     rw [hke, kAr] at hct
     (repeat (refine jt ⟨?_⟩; refine hS.st rfl rfl ?_; intro _ hS)); refine jt ⟨?_⟩
     clear hkc hke hkl hk
     refine SemW.loop (fun k : Nat => [(2, ptr b2), (3, ptr b3), (4, ptr b4), (6, .map (some m6)), (7, .map (some m7)), (51, .slice y e.del.length cy), (52, .int .i64 e.del.length), (53, .int .i64 k)])
      (fun k w' => (k ≤ e.del.length ∧ (e.del.take k).Nodup ∧ ∀ n ∈ e.del.take k, hasF v.files n = true) ∧ ∃ es7 c7 kv7, MapC intV intV es7 c7 kv7 ∧ Cnt kv7 (e.del.take k) ∧ St w [] [(m7, .map es7 c7), (m6, .map es c), (b4, .cells ⟨[.slice none 0 0, .int .i64 0, .int .i64 0, .int .i64 0]⟩ T_api_Version (0, 0)), (b3, .cells ⟨[.slice x e.add.length cx, .slice y e.del.length cy, .int .i64 e.wal, .int .i64 e.next, .int .i64 e.seq]⟩ T_api_Edit (0, 0)), (b2, .cells ⟨[.slice a v.files.length ca, .int .i64 v.wal, .int .i64 v.next, .int .i64 v.seq]⟩ T_api_Version (0, 0))] w') (fun k => e.del.length - k) 0
      ⟨rfl, rfl, rfl, rfl, rfl, rfl, rfl, rfl, trivial⟩ ⟨⟨kAg _, by simp, by simp⟩, #[], 0, [], ⟨rfl, by simp [Stamp]⟩, Cnt.nil, hS⟩ ?_
     clear hS
     rintro k w8 ⟨⟨hk, hnd, hhas⟩, es7, c7, kv7, hm7, hct7, hS⟩
     by_cases hkl : k < e.del.length
     ·have hx : (e.del.map intV)[k]? = some (intV e.del[k]) := by rw [kCo, kAp hkl]; rfl
      obtain ⟨g, off, rfl, -, -⟩ := he.del.get (j := k) (by rw [kAv]; exact hkl)
      have hsucc := kAn hkl
      have hmem : e.del[k] ∈ e.del := kAx hkl
      have hcle := count_take_le e.del (k + 1)
      generalize e.del[k] = n at hx hsucc hmem
      have hct8 := hct7.step n
      rw [← hsucc] at hct8
      have hcn := hct7 n
      have hcl : (e.del.take k).count n ≤ k := kBb (List.count_le_length) (by rw [kAo]; omega)
      have hc8 := hct8 n
      rw [kget_kput, if_pos rfl, kBu] at hc8
      have hc6 := hct n
      have hfl : (v.files.map (·.2)).count n ≤ v.files.length := kBb List.count_le_length (by rw [kAv]; exact kAd _)
      generalize hz : (kget n kv7).getD 0 = z at hcn hct8 hc8
      generalize hz6 : (kget n kvs).getD 0 = z6 at hc6
      refine jq ⟨?_⟩
      refine Arr.ldc hS he.del hx (by simp) ?_
      unfold intV
      refine jq ⟨?_⟩
      refine lookI (kvs := kv7) (fun w'' hw' => ⟨es7, c7, by subst hw'; exact hS.mem (b := m7), hm7.of⟩) ?_
      rw [hz]
      (repeat (refine jt ⟨?_⟩; refine hS.st rfl rfl ?_; intro _ hS)); refine jt ⟨?_⟩
      refine St.mapSet tblOk KEnc.i64 rfl rfl und_int hS (v := z + 1) hm7 ?_
      intro es2 c2 w9 hm2 hS
      refine jq ⟨?_⟩
      refine lookI (kvs := kput n (z + 1) kv7) (fun w'' hw' => ⟨es2, c2, by subst hw'; exact hS.mem (b := m7), hm2.of⟩) ?_
      rw [kget_kput, if_pos rfl, kBu]
      by_cases h1 : 1 < z + 1
      ·have hnone : applyM v e = none := by
        unfold applyM
        rw [delOK_count hmem (by have := hcle n; omega)]; simp
       (repeat (refine jt ⟨?_⟩; refine hS.st rfl rfl ?_; intro _ hS)); refine jt ⟨?_⟩
       rw [hnone]; exact ⟨rfl, hS.nil⟩
      ·refine jq ⟨?_⟩
       refine lookI (kvs := kvs) (fun w'' hw' => ⟨es, c, by subst hw'; exact hS.mem (b := m6), hm.of⟩) ?_
       rw [hz6]
       by_cases h2 : z6 = 0
       ·have hnone : applyM v e = none := by
         unfold applyM
         rw [delOK_has hmem ((hasF_count _ _).1 (by omega))]; simp
        (repeat (refine jt ⟨?_⟩; refine hS.st rfl rfl ?_; intro _ hS)); refine jt ⟨?_⟩
        rw [hnone]; exact ⟨rfl, hS.nil⟩
       ·(repeat (refine jt ⟨?_⟩; refine hS.st rfl rfl ?_; intro _ hS)); refine jt ⟨?_⟩
        refine ⟨k + 1, ⟨rfl, rfl, rfl, rfl, rfl, rfl, rfl, rfl, trivial⟩, ⟨⟨by omega, ?_, ?_⟩, es2, c2, _, hm2, hct8, hS⟩, by omega⟩
        ·rw [hsucc] at hc8 ⊢
         exact nodup_snoc hnd (by omega)
        ·intro m hmm
         rw [hsucc] at hmm
         rcases kAl.1 hmm with hmm | hmm
         ·exact hhas m hmm
         ·rw [kAy] at hmm
          subst hmm
          cases hh : hasF v.files m with
          |true => rfl
          |false => have := (hasF_count _ _).2 hh; omega
     ·have hke : k = e.del.length := by omega
      rw [hke, kAr] at hct7 hnd hhas
      have hdel := delOK_of hnd hhas
      (repeat (refine jt ⟨?_⟩; refine hS.st rfl rfl ?_; intro _ hS)); refine jt ⟨?_⟩
      clear hke hkl hk hnd hhas
      have hS : St w [] ([] ++ [(m7, .map es7 c7), (b4, .cells ⟨[.slice none 0 0, .int .i64 0, .int .i64 0, .int .i64 0]⟩ T_api_Version (0, 0)), (b3, .cells ⟨[.slice x e.add.length cx, .slice y e.del.length cy, .int .i64 e.wal, .int .i64 e.next, .int .i64 e.seq]⟩ T_api_Edit (0, 0)), (b2, .cells ⟨[.slice a v.files.length ca, .int .i64 v.wal, .int .i64 v.next, .int .i64 v.seq]⟩ T_api_Version (0, 0))]) w8 := hS.sub ((kAb _ _).cons_cons _)
      refine SemW.loop (fun z : FI => [(2, ptr b2), (3, ptr b3), (4, ptr b4), (7, .map (some m7)), (12, .slice z.a z.fs.length z.c), (74, .slice a v.files.length ca), (75, .int .i64 v.files.length), (76, .int .i64 z.k)])
       (fun z w' => (z.k ≤ v.files.length ∧ z.fs = keepF e (v.files.take z.k)) ∧ ∃ L, Vec T_api_File 2 z.a z.fs.length z.c (z.fs.flatMap fileC) L ∧ St w [] (L ++ [(m7, .map es7 c7), (b4, .cells ⟨[.slice none 0 0, .int .i64 0, .int .i64 0, .int .i64 0]⟩ T_api_Version (0, 0)), (b3, .cells ⟨[.slice x e.add.length cx, .slice y e.del.length cy, .int .i64 e.wal, .int .i64 e.next, .int .i64 e.seq]⟩ T_api_Edit (0, 0)), (b2, .cells ⟨[.slice a v.files.length ca, .int .i64 v.wal, .int .i64 v.next, .int .i64 v.seq]⟩ T_api_Version (0, 0))]) w') (fun z => v.files.length - z.k) ⟨[], 0, none, 0⟩
       ⟨rfl, rfl, rfl, rfl, rfl, rfl, rfl, rfl, trivial⟩ ⟨⟨kAg _, rfl⟩, [], Vec.nil, hS⟩ ?_
      clear hS
      rintro ⟨fs, k, a1, c1⟩ w9 ⟨⟨hk, hfs⟩, L, hvec, hS⟩
      simp only at hk hfs hvec hS ⊢
      have hfl : fs.length ≤ v.files.length := by
       rw [hfs]; exact kBb (List.length_filter_le _ _) (by rw [kAo]; omega)
      by_cases hkl : k < v.files.length
      ·obtain ⟨g, off, rfl⟩ := hv.files.pos (by omega)
       have hat := hv.files.at hkl
       have hsucc := kAn hkl
       generalize v.files[k] = f at hat hsucc
       have hkf := keepF_snoc e (v.files.take k) f
       rw [← hsucc, ← hfs] at hkf
       have hcn := hct7 f.2
       refine jq ⟨?_⟩
       refine Arr.ldn hS hv.files.arr rfl (k := k * 2) hat rfl ?_
       unfold fileC
       refine jq ⟨?_⟩
       refine hS.al ?_
       intro b14 w10 _ hS
       (repeat (refine jt ⟨?_⟩; refine hS.st rfl rfl ?_; intro _ hS)); refine jt ⟨?_⟩
       refine lookI (kvs := kv7) (fun w'' hw' => ⟨es7, c7, by subst hw'; exact hS.mem (b := m7), hm7.of⟩) ?_
       by_cases hz : e.del.count f.2 = 0
       ·rw [if_pos hz] at hkf
        rw [hcn, hz]
        (repeat (refine jt ⟨?_⟩; refine hS.st rfl rfl ?_; intro _ hS)); refine jt ⟨?_⟩
        refine hS.al ?_
        intro r w11 _ hS
        (repeat (refine jt ⟨?_⟩; refine hS.st rfl rfl ?_; intro _ hS)); refine jt ⟨?_⟩
        refine St.app (sz := 2) (m := 1) tblOk rfl rfl rfl rfl hS hvec (news := fileC f) rfl (by have := hS.arr (b := r) (T' := []) (by simp); exact this) rfl (by show (_ + _) * 16 ≤ _; omega) (by omega) ?_
        intro a2 c2 L2 w12 hvec hS
        have hS := St.tl2 hS
        have e9 : fs.flatMap fileC ++ fileC f = (fs ++ [f]).flatMap fileC := by simp
        have e8 : fs.length + 1 = (fs ++ [f]).length := by simp
        rw [e9, e8] at hvec
        rw [e8]
        (repeat (refine jt ⟨?_⟩; refine hS.st rfl rfl ?_; intro _ hS)); refine jt ⟨?_⟩
        exact ⟨⟨fs ++ [f], k + 1, a2, c2⟩, ⟨rfl, rfl, rfl, rfl, rfl, rfl, rfl, rfl, trivial⟩, ⟨⟨by simp only; omega, hkf.symm⟩, L2, hvec, hS⟩, by simp only; omega⟩
       ·rw [if_neg hz] at hkf
        rw [hcn]
        (repeat (refine jt ⟨?_⟩; refine hS.st rfl rfl ?_; intro _ hS)); refine jt ⟨?_⟩
        exact ⟨⟨fs, k + 1, a1, c1⟩, ⟨rfl, rfl, rfl, rfl, rfl, rfl, rfl, rfl, trivial⟩, ⟨⟨by simp only; omega, hkf.symm⟩, L, hvec, hS.sub (kAb _ _)⟩, by simp only; omega⟩
      ·have hke : k = v.files.length := by omega
       rw [hke, kAr] at hfs
       have hap : applyM v e = (addAll e.next fs e.add).map fun fs => ⟨sortF fs, e.wal, e.next, e.seq⟩ := by
        unfold applyM
        rw [hst, hdel, hfs]; rfl
       (repeat (refine jt ⟨?_⟩; refine hS.st rfl rfl ?_; intro _ hS)); refine jt ⟨?_⟩
       clear hke hkl hk hfs
       refine SemW.loop (fun z : FI => [(2, ptr b2), (3, ptr b3), (4, ptr b4), (12, .slice z.a z.fs.length z.c), (91, .slice x e.add.length cx), (92, .int .i64 e.add.length), (93, .int .i64 z.k)])
        (fun z w' => (z.k ≤ e.add.length ∧ z.fs.length ≤ v.files.length + z.k ∧ addAll e.next z.fs (e.add.drop z.k) = addAll e.next fs e.add) ∧ ∃ L, Vec T_api_File 2 z.a z.fs.length z.c (z.fs.flatMap fileC) L ∧ St w [] (L ++ [(m7, .map es7 c7), (b4, .cells ⟨[.slice none 0 0, .int .i64 0, .int .i64 0, .int .i64 0]⟩ T_api_Version (0, 0)), (b3, .cells ⟨[.slice x e.add.length cx, .slice y e.del.length cy, .int .i64 e.wal, .int .i64 e.next, .int .i64 e.seq]⟩ T_api_Edit (0, 0)), (b2, .cells ⟨[.slice a v.files.length ca, .int .i64 v.wal, .int .i64 v.next, .int .i64 v.seq]⟩ T_api_Version (0, 0))]) w') (fun z => e.add.length - z.k) ⟨fs, 0, a1, c1⟩
        ⟨rfl, rfl, rfl, rfl, rfl, rfl, rfl, trivial⟩ ⟨⟨kAg _, hfl, rfl⟩, L, hvec, hS⟩ ?_
       clear hS hvec hfl
       generalize hgo : addAll e.next fs e.add = res at hap
       clear hgo
       rintro ⟨fs, k, a1, c1⟩ w9 ⟨⟨hk, hfl, hadd⟩, L, hvec, hS⟩
       simp only at hk hfl hadd hvec hS ⊢
       by_cases hkl : k < e.add.length
       ·obtain ⟨g, off, rfl⟩ := he.add.pos (by omega)
        have hat := he.add.at hkl
        rw [kBs hkl] at hadd
        generalize e.add[k] = f at hat hadd
        unfold addAll at hadd
        refine jq ⟨?_⟩
        refine Arr.ldn hS he.add.arr rfl (k := k * 2) hat rfl ?_
        unfold fileC
        refine jq ⟨?_⟩
        refine hS.al ?_
        intro b16 w10 _ hS
        by_cases h1 : e.next ≤ f.2
        ·rw [if_pos (.inl h1)] at hadd
         have hnone : applyM v e = none := by rw [hap, ← hadd]; rfl
         (repeat (refine jt ⟨?_⟩; refine hS.st rfl rfl ?_; intro _ hS)); refine jt ⟨?_⟩
         rw [hnone]; exact ⟨rfl, hS.nil⟩
        ·(repeat (refine jt ⟨?_⟩; refine hS.st rfl rfl ?_; intro _ hS)); refine jt ⟨?_⟩
         refine RunG.of rfl ?_
         (repeat (refine jt ⟨?_⟩; refine hS.st rfl rfl ?_; intro _ hS)); refine jt ⟨?_⟩
         refine (containsF_spec (f := f) (filesAt_vec hS hvec) (by have := hS.arr (b := b16) (T' := []) (by simp); exact this) (by omega)).mono ?_
         rintro _ w10 ⟨rfl, hS'⟩
         have hS := hS.call0 hS'
         by_cases h2 : hasF fs f.2 = true
         ·rw [if_pos (.inr h2)] at hadd
          have hnone : applyM v e = none := by rw [hap, ← hadd]; rfl
          rw [h2]
          (repeat (refine jt ⟨?_⟩; refine hS.st rfl rfl ?_; intro _ hS)); refine jt ⟨?_⟩
          rw [hnone]; exact ⟨rfl, hS.nil⟩
         ·rw [if_neg (by rintro (h | h); exact h1 h; exact h2 h)] at hadd
          rw [show hasF fs f.2 = false by simpa using h2]
          (repeat (refine jt ⟨?_⟩; refine hS.st rfl rfl ?_; intro _ hS)); refine jt ⟨?_⟩
          refine hS.al ?_
          intro r w11 _ hS
          (repeat (refine jt ⟨?_⟩; refine hS.st rfl rfl ?_; intro _ hS)); refine jt ⟨?_⟩
          refine St.app (sz := 2) (m := 1) tblOk rfl rfl rfl rfl hS hvec (news := fileC f) rfl (by have := hS.arr (b := r) (T' := []) (by simp); exact this) rfl (by show (_ + _) * 16 ≤ _; omega) (by omega) ?_
          intro a2 c2 L2 w12 hvec hS
          have hS := St.tl2 hS
          have e9 : fs.flatMap fileC ++ fileC f = (fs ++ [f]).flatMap fileC := by simp
          have e8 : fs.length + 1 = (fs ++ [f]).length := by simp
          rw [e9, e8] at hvec
          rw [e8]
          (repeat (refine jt ⟨?_⟩; refine hS.st rfl rfl ?_; intro _ hS)); refine jt ⟨?_⟩
          exact ⟨⟨fs ++ [f], k + 1, a2, c2⟩, ⟨rfl, rfl, rfl, rfl, rfl, rfl, rfl, trivial⟩, ⟨⟨by simp only; omega, by simp only [kAa, kBv]; omega, hadd⟩, L2, hvec, hS⟩, by simp only; omega⟩
       ·have hke : k = e.add.length := by omega
        rw [hke, kCt] at hadd
        have hsome : applyM v e = some ⟨sortF fs, e.wal, e.next, e.seq⟩ := by rw [hap, ← hadd]; rfl
        rw [hsome]
        (repeat (refine jt ⟨?_⟩; refine hS.st rfl rfl ?_; intro _ hS)); refine jt ⟨?_⟩
        refine SemW.draw tblOk mixed (fun w' => St w [] (L ++ [(m7, .map es7 c7), (b4, .cells ⟨[.slice none 0 0, .int .i64 0, .int .i64 0, .int .i64 0]⟩ T_api_Version (0, 0)), (b3, .cells ⟨[.slice x e.add.length cx, .slice y e.del.length cy, .int .i64 e.wal, .int .i64 e.next, .int .i64 e.seq]⟩ T_api_Edit (0, 0)), (b2, .cells ⟨[.slice a v.files.length ca, .int .i64 v.wal, .int .i64 v.next, .int .i64 v.seq]⟩ T_api_Version (0, 0))]) w') [9, 10] [0, 2, 3, 4, 5, 6, 7, 1, 8, 9, 10] (by kernel_rfl) hS.drew ?_
        have hS := hS.drew
        generalize w9.drew = w10 at hS
        refine jr ⟨?_⟩
        refine (sorted_spec (filesAt_vec hS hvec) (by omega)).mono ?_
        rintro _ w11 ⟨a5, c5, L5, rfl, hv5, hS'⟩
        have hS := hS.callNew hS'
        refine Chk.mk (hS.sub (kAj _ _)) ?_
        (repeat (refine jt ⟨?_⟩; refine hS.st rfl rfl ?_; intro _ hS)); refine jt ⟨?_⟩
        exact ⟨a5, c5, L5, rfl, ⟨hv5, her⟩, hS.sub (kBk _ _)⟩
 ·have hr' : rightE e = false := by simpa using hr
  have hnone : applyM v e = none := by unfold applyM startOK; rw [hr']; simp
  rw [hr']
  (repeat (refine jt ⟨?_⟩; refine hS.st rfl rfl ?_; intro _ hS)); refine jt ⟨?_⟩
  rw [hnone]; exact ⟨rfl, hS.nil⟩
end Go.Proofs.YtkgibdhpijdbfaaGreatDoor
namespace Go.Proofs.YtkgibdhpijdbfaaGreatDoor
open Go Go.Eng Go.Proofs Go.Srt
open Go.ChangeShapes Go.WideShapes Go.ChangeAt Go.RowKit
theorem RSl.addr {β : Type} {sz : Nat} {R : CellR β} {W : World} {a : Option Addr} {n cap : Nat} {xs : List β} (h : RSl sz R W [.slice a n cap] xs) (hx : 0 < xs.length) : ∃ g off, a = some ⟨g, off, none⟩ := by
 obtain ⟨b, off, cs, h1, -⟩ := h.at hx
 exact ⟨b, off, h1⟩
theorem RSl.cap {β : Type} {sz : Nat} {R : CellR β} {W : World} {a : Option Addr} {n cap : Nat} {xs : List β} (h : RSl sz R W [.slice a n cap] xs) : xs.length ≤ cap := by
 obtain ⟨a', cap', h1, h2, -⟩ := h.ex
 have : cap = cap' := by simpa using (List.cons.inj h1).1 |> fun h => (Value.slice.inj h).2.2
 omega
def REditA : CellR EM := fun W cs e => ∃ a b ca cb, cs = editC a b ca cb e ∧ EditAt W a b ca cb e
end Go.Proofs.YtkgibdhpijdbfaaGreatDoor
namespace Go.Proofs.YtkgibdhpijdbfaaGreatDoor
open Go Go.Eng Go.Proofs Go.Srt
theorem REditA.keep {w0 w : World} {H : Heap} (hS : St w0 [] H w) (cs : List Value) (e : EM) (h : REditA w0 cs e) : REditA w cs e := by
 obtain ⟨a, b, ca, cb, h1, h2⟩ := h
 exact ⟨a, b, ca, cb, h1, h2.keep hS⟩
def ApplyAllPost (o : Option VM) (r : Value) (w w' : World) : Prop := match o with
 |none => r = .tuple ⟨[.agg ⟨versC none 0 zeroV⟩, .int .i64 11]⟩ ∧ St w [] [] w'
 |some v' => ∃ a' c' L, r = .tuple ⟨[.agg ⟨versC a' c' v'⟩, .int .i64 0]⟩ ∧ VersV a' c' v' L ∧ St w [] L w'
structure AI where
 v : VM
 a : Option Addr
 c : Nat
 k : Nat
theorem addLen_succ (es : List EM) (k : Nat) (hk : k < es.length) : addLen (es.take (k + 1)) = addLen (es.take k) + es[k].add.length := by
 unfold addLen
 rw [kAn hk, kAi, kCf]; simp
theorem addLen_le (es : List EM) (k : Nat) : addLen (es.take k) ≤ addLen es := by
 unfold addLen
 conv => rhs; rw [← kAu k es, kAi, kCf]
 omega
set_option maxHeartbeats 8000000 in
theorem Apply_spec {w : World} {a x : Option Addr} {ca cx : Nat} {v : VM} {es : List EM} (hv : VersAt w a ca v) (he : RSl 5 REditA w [.slice x es.length cx] es) (hlen : v.files.length + addLen es ≤ 8388608) (hel : es.length ≤ 8388608) :
  Cl Tryz.prog f_manifest_Apply [.agg ⟨versC a ca v⟩, .slice x es.length cx] w fun r w' => ApplyAllPost (applyAll (sortV v) es) r w w' := by
 have hS := St.start w
 have hvr := hv.rng
 unfold versC
 refine en_manifest_Apply rfl ?_
 refine jq ⟨?_⟩
 refine hS.al ?_
 intro b2 w1 _ hS
 refine jq ⟨?_⟩
 refine hS.al ?_
 intro b4 w2 _ hS
 (repeat (refine jt ⟨?_⟩; refine hS.st rfl rfl ?_; intro _ hS)); refine jt ⟨?_⟩
 refine (sorted_spec (hv.files.keep hS) (by omega)).mono ?_
 rintro _ w3 ⟨a1, c1, L1, rfl, hv1, hS'⟩
 have hS := hS.callNew hS'
 (repeat (refine jt ⟨?_⟩; refine hS.st rfl rfl ?_; intro _ hS)); refine jt ⟨?_⟩
 have hvv : VersV a1 c1 (sortV v) L1 := ⟨hv1, hvr⟩
 refine SemW.loop (fun z : AI => [(2, ptr b2), (4, ptr b4), (14, .slice x es.length cx), (15, .int .i64 es.length), (16, .int .i64 z.k)])
  (fun z w' => (z.k ≤ es.length ∧ applyAll z.v (es.drop z.k) = applyAll (sortV v) es ∧ z.v.files.length ≤ v.files.length + addLen (es.take z.k)) ∧ ∃ L, VersV z.a z.c z.v L ∧ St w [] (L ++ [(b4, .cells ⟨[.slice none 0 0, .int .i64 0, .int .i64 0, .int .i64 0]⟩ T_api_Version (0, 0)), (b2, .cells ⟨[.slice z.a z.v.files.length z.c, .int .i64 z.v.wal, .int .i64 z.v.next, .int .i64 z.v.seq]⟩ T_api_Version (0, 0))]) w') (fun z => es.length - z.k) ⟨sortV v, a1, c1, 0⟩
  ⟨rfl, rfl, rfl, rfl, rfl, trivial⟩ ⟨⟨kAg _, rfl, by simp only [sortV, sortF_len]; omega⟩, L1, hvv, hS⟩ ?_
 clear hS hvv hv1
 generalize applyAll (sortV v) es = res
 rintro ⟨v1, a1, c1, k⟩ w4 ⟨⟨hk, hall, hfl⟩, L, hvv, hS⟩
 simp only at hk hall hfl hvv hS ⊢
 by_cases hkl : k < es.length
 ·have hsl := addLen_succ es k hkl
  have hle := addLen_le es (k + 1)
  rw [kBs hkl] at hall
  obtain ⟨g, off, cs, rfl, hR, hld⟩ := RSl.ldn hS.nil he hkl
  obtain ⟨ea, eb, eca, ecb, rfl, heA⟩ := hR
  generalize es[k] = e at hsl hall heA hld
  unfold editC at hld
  refine jq ⟨?_⟩
  refine hld _ ?_
  refine jq ⟨?_⟩
  refine hS.al ?_
  intro b7 w5 _ hS
  (repeat (refine jt ⟨?_⟩; refine hS.st rfl rfl ?_; intro _ hS)); refine jt ⟨?_⟩
  refine (apply_spec (hvv.at hS) (heA.keep hS) (by omega)).mono ?_
  intro r w6 hpost
  unfold applyAll at hall
  cases hap : applyM v1 e with
  |none =>
   rw [hap] at hpost hall
   obtain ⟨rfl, hS'⟩ := hpost
   have hS := hS.call0 hS'
   simp only at hall
   subst hall
   unfold versC zeroV
   (repeat (refine jt ⟨?_⟩; refine hS.st rfl rfl ?_; intro _ hS)); refine jt ⟨?_⟩
   refine hS.al ?_
   intro b8 w7 _ hS
   (repeat (refine jt ⟨?_⟩; refine hS.st rfl rfl ?_; intro _ hS)); refine jt ⟨?_⟩
   exact ⟨rfl, hS.nil⟩
  |some v2 =>
   rw [hap] at hpost hall
   obtain ⟨a2, c2, L2, rfl, hv2, hS'⟩ := hpost
   have hS := hS.callNew hS'
   simp only at hall
   unfold versC
   (repeat (refine jt ⟨?_⟩; refine hS.st rfl rfl ?_; intro _ hS)); refine jt ⟨?_⟩
   refine hS.al ?_
   intro b8 w7 _ hS
   (repeat (refine jt ⟨?_⟩; refine hS.st rfl rfl ?_; intro _ hS)); refine jt ⟨?_⟩
   have hln := applyM_len hap
   refine ⟨⟨v2, a2, c2, k + 1⟩, ⟨rfl, rfl, rfl, rfl, rfl, trivial⟩, ⟨⟨by simp only; omega, hall, by simp only; omega⟩, L2, hv2, ?_⟩, by simp only; omega⟩
   exact St.midA (St.tl1 hS)
 ·have hke : k = es.length := by omega
  rw [hke, kCt] at hall
  unfold applyAll at hall
  subst hall
  (repeat (refine jt ⟨?_⟩; refine hS.st rfl rfl ?_; intro _ hS)); refine jt ⟨?_⟩
  exact ⟨a1, c1, L, rfl, hvv, hS.sub (kBk _ _)⟩
theorem VersAt.keep {w0 w : World} {H : Heap} (hS : St w0 [] H w) {a : Option Addr} {c : Nat} {v : VM} (h : VersAt w0 a c v) : VersAt w a c v := ⟨h.files.keep hS, h.rng⟩
def VersI (w : World) (a : Option Addr) (c : Nat) (v : VM) (L : Heap) : Prop := (L = [] ∧ VersAt w a c v) ∨ VersV a c v L
theorem VersI.at {w0 w : World} {H L : Heap} {F : Heap → Heap} {a : Option Addr} {c : Nat} {v : VM} (h : VersI w0 a c v L) (hS : St w0 [] H w) [hc : Chunk H L F] : VersAt w a c v := by
 rcases h with ⟨-, h⟩ | h
 ·exact h.keep hS
 ·exact h.at hS
theorem applyAll_one (v : VM) (e : EM) : applyAll (sortV v) [e] = applyM v e := by
 unfold applyAll
 rw [applyM_sort]
 cases applyM v e <;> rfl
def errI (A : Option VM) : Int := match A with
 |none => 11
 |some _ => 0
theorem VersV.zero : VersV none 0 zeroV [] := ⟨Vec.nil, by decide⟩
theorem ApplyAllPost.out {A : Option VM} {r : Value} {w w' : World} (h : ApplyAllPost A r w w') : ∃ a' c' L, r = .tuple ⟨[.agg ⟨versC a' c' (A.getD zeroV)⟩, .int .i64 (errI A)]⟩ ∧ VersV a' c' (A.getD zeroV) L ∧ St w [] L w' := by
 cases A with
 |none => obtain ⟨h1, h2⟩ := h; exact ⟨_, _, [], h1, VersV.zero, h2⟩
 |some v => exact h
def wholeE (v : VM) : EM := ⟨v.files, [], v.wal, v.next, v.seq⟩
def GoodF (next : Int) (fs : List FileM) : Prop := (∀ f ∈ fs, okAdd f = true ∧ f.2 < next) ∧ (fs.map (·.2)).Nodup
structure Good (v : VM) : Prop where
 files : GoodF v.next v.files
 nn : 0 ≤ v.wal ∧ 0 ≤ v.next ∧ 0 ≤ v.seq
 so : sortV v = v
theorem Good.zero : Good zeroV := ⟨⟨by simp [zeroV], by simp [zeroV]⟩, by decide, rfl⟩
theorem hasF_mem (fs : List FileM) (n : Int) : hasF fs n = true ↔ n ∈ fs.map (·.2) := by
 unfold hasF
 rw [List.any_eq_true, kAm]
 simp only [beq_iff_eq]
theorem GoodF.snoc {next : Int} {fs : List FileM} {f : FileM} (h : GoodF next fs) (h1 : okAdd f = true) (h2 : f.2 < next) (h3 : hasF fs f.2 = false) : GoodF next (fs ++ [f]) := by
 refine ⟨fun g hg => ?_, ?_⟩
 ·rcases kAl.1 hg with hg | hg
  ·exact h.1 g hg
  ·rw [kAy] at hg; subst hg; exact ⟨h1, h2⟩
 ·rw [kAi, kBw]
  refine ⟨h.2, by simp, fun a ha b hb => ?_⟩
  rw [List.map_singleton, kAy] at hb
  subst hb
  intro e
  subst e
  have := (hasF_mem fs f.2).2 ha
  rw [h3] at this; cases this
theorem addAll_good {next : Int} : ∀ {r fs a : List FileM}, addAll next fs r = some a → GoodF next fs → (∀ f ∈ r, okAdd f = true) → GoodF next a
 |[], fs, a, h, hg, _ => by cases h; exact hg
 |f :: r, fs, a, h, hg, hr => by
  unfold addAll at h
  split at h
  ·cases h
  ·next hc =>
   have h3 : hasF fs f.2 = false := by
    cases e : hasF fs f.2 with
    |false => rfl
    |true => exact absurd (.inr e) hc
   have h2 : f.2 < next := by
    rcases Int.lt_or_le f.2 next with h | h
    ·exact h
    ·exact absurd (.inl h) hc
   exact addAll_good h (hg.snoc (hr f (by simp)) h2 h3) fun g hgr => hr g (by simp [hgr])
theorem addAll_all {next : Int} : ∀ (r fs : List FileM), GoodF next (fs ++ r) → addAll next fs r = some (fs ++ r)
 |[], fs, _ => by simp [addAll]
 |f :: r, fs, h => by
  unfold addAll
  have h2 := (h.1 f (by simp)).2
  have h3 : ¬ hasF fs f.2 = true := by
   intro e
   have h4 := (hasF_mem fs f.2).1 e
   have h5 := h.2
   rw [kAi, kBw] at h5
   exact h5.2.2 f.2 h4 f.2 (by simp) rfl
  rw [if_neg (by rintro (h' | h'); omega; exact h3 h')]
  have := addAll_all r (fs ++ [f]) (by simpa using h)
  simpa using this
theorem GoodF.perm {next : Int} {fs gs : List FileM} (h : GoodF next fs) (hp : gs.Perm fs) : GoodF next gs :=
 ⟨fun f hf => h.1 f (hp.mem_iff.1 hf), (hp.map _).nodup_iff.2 h.2⟩
theorem Good.step {v v' : VM} {e : EM} (h : Good v) (ha : applyM v e = some v') : Good v' := by
 have hso := applyM_sorted ha
 unfold applyM at ha
 split at ha
 ·next hc =>
  rw [Bool.and_eq_true] at hc
  obtain ⟨hst, -⟩ := hc
  unfold startOK rightE at hst
  simp only [Bool.and_eq_true, decide_eq_true_iff] at hst
  obtain ⟨⟨⟨⟨hadd, -⟩, hnn⟩, hnx⟩, -⟩ := hst
  cases hal : addAll e.next (keepF e v.files) e.add with
  |none => rw [hal] at ha; cases ha
  |some a =>
   rw [hal] at ha
   simp only [kD, Option.some.injEq] at ha
   subst ha
   have hk : GoodF e.next (keepF e v.files) := by
    refine ⟨fun f hf => ?_, (List.filter_sublist.map _).nodup h.files.2⟩
    have := h.files.1 f ((List.mem_filter.1 hf).1)
    exact ⟨this.1, by have := this.2; omega⟩
   have hg := addAll_good hal hk (kBd.1 hadd)
   exact ⟨hg.perm (sortF_perm a), hnn, hso⟩
 ·cases ha
end Go.Proofs.YtkgibdhpijdbfaaGreatDoor
namespace Go.Proofs.YtkgibdhpijdbfaaGreatDoor
open Go Go.Eng
def numB (n : Nat) : Bytes := if n < 128 then [UInt8.ofNat n] else UInt8.ofNat (n % 128 + 128) :: numB (n / 128)
termination_by n
decreasing_by omega
theorem numB_lt {n : Nat} (h : n < 128) : numB n = [UInt8.ofNat n] := by rw [numB, if_pos h]
theorem numB_ge {n : Nat} (h : ¬ n < 128) : numB n = UInt8.ofNat (n % 128 + 128) :: numB (n / 128) := by rw [numB, if_neg h]
theorem numB_pos (n : Nat) : 1 ≤ (numB n).length := by
 by_cases h : n < 128
 ·rw [numB_lt h]; simp
 ·rw [numB_ge h]; simp
theorem numB_len : ∀ (k n : Nat), n < 128 ^ (k + 1) → (numB n).length ≤ k + 1
 |0, n, h => by rw [numB_lt (by simpa using h)]; simp
 |k + 1, n, h => by
  by_cases h2 : n < 128
  ·rw [numB_lt h2]; simp
  ·rw [numB_ge h2]
   have h3 : 128 ^ (k + 1 + 1) = 128 ^ (k + 1) * 128 := Nat.pow_succ ..
   have := numB_len k (n / 128) (by omega)
   simp only [kAe]; omega
def zig (z : Int) : Nat := if 0 ≤ z then 2 * z.toNat else 2 * (-(z + 1)).toNat + 1
def intB (z : Int) : Bytes := numB (zig z)
def intsB (zs : List Int) : Bytes := (zs.map intB).flatten
def textB (s : Bytes) : Bytes := numB s.length ++ s
def numS : Nat → Bytes → Option (Nat × Bytes)
 |_, [] => none
 |k, c :: u => if 9 < k ∨ (k = 9 ∧ 1 < c.toNat) ∨ (0 < k ∧ c.toNat = 0) then none
  else if c.toNat < 128 then some (c.toNat, u)
  else match numS (k + 1) u with
   |some (m, r) => some (c.toNat % 128 + 128 * m, r)
   |none => none
theorem u8_ofNat (c : UInt8) : UInt8.ofNat c.toNat = c := by simp
theorem numS_some : ∀ (u : Bytes) (k m : Nat) (r : Bytes), numS k u = some (m, r) → u = numB m ++ r ∧ (0 < k → 0 < m) ∧ k ≤ 9 ∧ m < 2 ^ (64 - 7 * k)
 |[], k, m, r, h => by simp [numS] at h
 |c :: u, k, m, r, h => by
  have hc := c.toNat_lt
  rw [numS] at h
  split at h
  ·cases h
  ·rename_i h1
   split at h
   ·rename_i h2
    simp only [Option.some.injEq, Prod.mk.injEq] at h
    obtain ⟨rfl, rfl⟩ := h
    refine ⟨by rw [numB_lt h2, u8_ofNat]; rfl, by omega, by omega, ?_⟩
    by_cases hk : k = 9
    ·subst hk; show _ < 2; omega
    ·exact Nat.lt_of_lt_of_le h2 (Nat.pow_le_pow_right (n := 2) (i := 7) (by omega) (by omega))
   ·rename_i h2
    split at h
    ·rename_i m' r' h3
     simp only [Option.some.injEq, Prod.mk.injEq] at h
     obtain ⟨rfl, rfl⟩ := h
     obtain ⟨h4, h5, h6, h7⟩ := numS_some u (k + 1) m' r' h3
     have h8 := h5 (by omega)
     refine ⟨?_, by omega, by omega, ?_⟩
     ·rw [numB_ge (by omega), h4, show (c.toNat % 128 + 128 * m') % 128 + 128 = c.toNat by omega, show (c.toNat % 128 + 128 * m') / 128 = m' by omega, u8_ofNat]
      rfl
     ·rw [show 64 - 7 * k = (64 - 7 * (k + 1)) + 7 by omega, Nat.pow_add]
      generalize 2 ^ (64 - 7 * (k + 1)) = P at *
      omega
    ·cases h
theorem numS_app : ∀ (j m k : Nat) (r : Bytes), m < 2 ^ (64 - 7 * k) → k + j = 9 → (0 < k → 0 < m) → numS k (numB m ++ r) = some (m, r) := by
 intro j
 induction j with
 |zero =>
  intro m k r hm hk h0
  obtain rfl : k = 9 := by omega
  have hm : m < 2 := hm
  rw [numB_lt (by omega)]
  simp only [kBe, kBj, numS]
  have e : (UInt8.ofNat m).toNat = m := by simp; omega
  rw [e, if_neg (by omega), if_pos (by omega)]
 |succ j ih =>
  intro m k r hm hk h0
  by_cases h : m < 128
  ·rw [numB_lt h]
   simp only [kBe, kBj, numS]
   have e : (UInt8.ofNat m).toNat = m := by simp; omega
   rw [e, if_neg (by omega), if_pos (by omega)]
  ·rw [numB_ge h]
   simp only [kBe, numS]
   have e : (UInt8.ofNat (m % 128 + 128)).toNat = m % 128 + 128 := by simp; omega
   rw [e, if_neg (by omega), if_neg (by omega), ih (m / 128) (k + 1) r ?_ (by omega) (by omega)]
   ·simp only [Option.some.injEq, Prod.mk.injEq, and_true]; omega
   ·rw [show 64 - 7 * k = (64 - 7 * (k + 1)) + 7 by omega, Nat.pow_add] at hm
    generalize 2 ^ (64 - 7 * (k + 1)) = P at *
    omega
def numR (t : Bytes) : Option (Nat × Bytes) := numS 0 t
theorem numR_iff (t : Bytes) (m : Nat) (r : Bytes) : numR t = some (m, r) ↔ t = numB m ++ r ∧ m < 18446744073709551616 := by
 constructor
 ·intro h
  obtain ⟨h1, -, -, h2⟩ := numS_some t 0 m r h
  exact ⟨h1, h2⟩
 ·rintro ⟨rfl, h⟩
  exact numS_app 9 m 0 r h rfl (by omega)
def unzig (u : Nat) : Int := if u % 2 = 0 then (u / 2 : Nat) else -((u / 2 : Nat) : Int) - 1
theorem unzig_zig (z : Int) : unzig (zig z) = z := by
 unfold unzig zig; split <;> split <;> omega
def textR (t : Bytes) : Option (Bytes × Bytes) := match numR t with
 |some (m, r) => if r.length < m then none else some (r.take m, r.drop m)
 |none => none
theorem textR_iff (t s r : Bytes) : textR t = some (s, r) ↔ t = textB s ++ r ∧ s.length < 18446744073709551616 := by
 unfold textR textB
 cases h : numR t with
 |none =>
  simp only [false_iff, reduceCtorEq]
  intro hh
  rw [(numR_iff t s.length (s ++ r)).2 ⟨by rw [hh.1, kAc], hh.2⟩] at h; cases h
 |some x =>
  obtain ⟨m, r'⟩ := x
  obtain ⟨h1, h2⟩ := (numR_iff t m r').1 h
  simp only
  constructor
  ·intro hh
   split at hh
   ·cases hh
   ·simp only [Option.some.injEq, Prod.mk.injEq] at hh
    obtain ⟨rfl, rfl⟩ := hh
    have e : (r'.take m).length = m := by simp; omega
    rw [e, kAc, kAu]
    exact ⟨h1, h2⟩
  ·rintro ⟨h3, h4⟩
   rw [(numR_iff t s.length (s ++ r)).2 ⟨by rw [h3, kAc], h4⟩] at h
   simp only [Option.some.injEq, Prod.mk.injEq] at h
   obtain ⟨rfl, rfl⟩ := h
   rw [if_neg (by simp), List.take_left, List.drop_left]
end Go.Proofs.YtkgibdhpijdbfaaGreatDoor
namespace Go.Proofs.YtkgibdhpijdbfaaGreatDoor
open Go Go.Eng Go.Proofs
theorem St.toBytes {P : Program} {T0 : Tbl} (hT : TOk P T0) {t u e : TypeId} {i iu ie : TI} (hi : tf T0 t = some i) (hk : i.k = .slice e 1) (hiu : tf T0 u = some iu) (hku : iu.k = .str) (hie : tf T0 e = some ie) (hke : ie.k = .int .u8)
  {w0 w : World} {T : List Nat} {H : Heap} (hS : St w0 T H w) {s : Bytes} {K : Value → World → Prop}
  (h : ∀ b c z fz w', s.length ≤ c ∧ s.length ≤ fz.1 → St w0 T ((b, .cells ⟨s.map byteV ++ z⟩ e fz) :: H) w' → K (.slice (some ⟨b, 0, none⟩) s.length c) w') : RunG P (convert u t (Str s)) w K := by
 have h1 := und_of hT hiu; rw [hku] at h1
 have h2 := und_of hT hi; rw [hk] at h2
 have h3 := und_of hT hie; rw [hke] at h3
 have hge := grownCap_ge w s.length 0 e
 have e1 : bytesRow ⟨⟨s⟩⟩ (grownCap w s.length 0 e) = ⟨s.map byteV ++ List.replicate (grownCap w s.length 0 e - s.length) (.int .u8 0)⟩ := by
  apply Array.ext'
  simp [bytesRow]; rfl
 have hrun : (convert u t (Str s)).run P w = .ok (.slice (some ⟨w.heap.size, 0, none⟩) s.length (grownCap w s.length 0 e))
   (w.drew.alloc (.cells (bytesRow ⟨⟨s⟩⟩ (grownCap w s.length 0 e)) e ((bytesRow ⟨⟨s⟩⟩ (grownCap w s.length 0 e)).size, (bytesRow ⟨⟨s⟩⟩ (grownCap w s.length 0 e)).size + 1))) := run_bytes_of_string w u t e ⟨⟨s⟩⟩ h1 h2.1 h3
 rw [e1] at hrun
 exact RunG.of hrun (h _ _ _ _ _ ⟨hge, by simp⟩ (hS.drew.alloc _))
inductive PackW (b : Nat) (bs : Bytes) : Heap → Prop where
 |mk (a : Option Addr) (cap : Nat) (L : Heap) (hv : Vec T_uint8 1 a bs.length cap (bs.map byteV) L) : PackW b bs ((b, .cells ⟨[.int .i64 bs.length, .slice a bs.length cap]⟩ T_pack_Writer (0, 0)) :: L)
theorem PNew_spec {w : World} : Cl Tryz.prog f_pack_New [] w fun v w' => ∃ b L, v = ptr b ∧ PackW b [] L ∧ St w [] L w' := by
 have hS := St.start w
 refine en_pack_New rfl ?_
 refine jq ⟨?_⟩
 refine hS.al ?_
 intro b w1 _ hS
 refine jq ⟨?_⟩
 exact ⟨b, _, rfl, PackW.mk none 0 [] Vec.nil, hS⟩
theorem add_spec {w : World} {b : Nat} {bs : Bytes} {L : Heap} (hW : PackW b bs L) (hh : Holds L w) {a : Option Addr} {cap : Nat} {xs : Bytes} (ha : Arr w (keys L) a (xs.map byteV)) (hlen : bs.length + xs.length ≤ 140737488355328) :
  Cl Tryz.prog f_pack_Writer_add [ptr b, .slice a xs.length cap] w fun _ w' => ∃ L', PackW b (bs ++ xs) L' ∧ St w (keys L) L' w' := by
 have hS := St.enter hh
 generalize hT : keys L = T0 at hS ha ⊢
 obtain ⟨a0, c0, L0, hv⟩ := hW
 refine en_pack_Writer_add rfl ?_
 (repeat (refine jt ⟨?_⟩; refine hS.st rfl rfl ?_; intro _ hS)); refine jt ⟨?_⟩
 refine St.app (sz := 1) (m := xs.length) tblOk rfl rfl rfl rfl hS hv (news := xs.map byteV) (by simp) ((hS.arrOld ha).sub (by simp)) (by simp [byteV, Value.oneCell']) (by show (_ + _) * 1 ≤ _; omega) (by omega) ?_
 intro a' c' L' w' hv' hS
 have hl : (bs ++ xs).length = bs.length + xs.length := kAa
 rw [← hl, ← kAi] at hv'
 rw [← hl]
 (repeat (refine jt ⟨?_⟩; refine hS.st rfl rfl ?_; intro _ hS)); refine jt ⟨?_⟩
 refine ⟨_, PackW.mk a' c' L' hv', ?_⟩
 rw [show (((bs ++ xs).length : Nat) : Int) = (bs.length : Int) + (xs.length : Int) by rw [hl]; omega]
 exact hS
def u64V (n : Nat) : Value := .int .u64 n
theorem or128 (m : Nat) : orI .u8 (IntKind.u8.wrap (m : Int)) 128 = (((UInt8.ofNat (m % 128 + 128)).toNat : Nat) : Int) := by
 have e1 : IntKind.u8.wrap (m : Int) = ((m % 256 : Nat) : Int) := wrapU .u8 rfl m
 rw [e1]
 have h := kBn m (show 0 < 256 by omega)
 have e2 : m % 128 = m % 256 % 128 := by omega
 rw [e2]
 generalize m % 256 = r at h
 have key : ∀ r : Fin 256, orI .u8 ((r.val : Nat) : Int) 128 = (((UInt8.ofNat (r.val % 128 + 128)).toNat : Nat) : Int) := by decide +kernel
 exact key ⟨r, h⟩
theorem numbs_succ (ns : List Nat) (k : Nat) (hk : k < ns.length) : ((ns.take (k + 1)).map numB).flatten = ((ns.take k).map numB).flatten ++ numB ns[k] := by
 rw [kAn hk, kAi, kBy, kAh, kC, kBi, kCc, kAk]
theorem numB_len10 (n : Nat) (h : n < 18446744073709551616) : (numB n).length ≤ 10 := numB_len 9 n (Nat.lt_of_lt_of_le h (by decide))
theorem numbs_len (ns : List Nat) (h : ∀ n ∈ ns, n < 18446744073709551616) : ((ns.map numB).flatten).length ≤ 10 * ns.length := by
 induction ns with
 |nil => simp
 |cons n r ih =>
  have h1 := numB_len10 n (h n (by simp))
  have h2 := ih (fun m hm => h m (kAs _ hm))
  simp only [kAh, kBi, kAa, kAe]; omega
theorem byteV_ofNat (m : Nat) (h : m < 256) : byteV (UInt8.ofNat m) = .int .u8 (m : Int) := by
 have : (UInt8.ofNat m).toNat = m := by simp; omega
 unfold byteV; rw [this]
set_option maxHeartbeats 1000000 in
theorem Num_spec {w : World} {b : Nat} {bs : Bytes} {L : Heap} (hW : PackW b bs L) (hh : Holds L w) {a : Option Addr} {cap : Nat} {ns : List Nat} (ha : Arr w (keys L) a (ns.map u64V)) (hn : ∀ n ∈ ns, n < 18446744073709551616) (_hl : ns.length ≤ 1099511627776) (hlen : bs.length + 10 * ns.length ≤ 140737488355328) :
  Cl Tryz.prog f_pack_Writer_Num [ptr b, .slice a ns.length cap] w fun _ w' => ∃ L', PackW b (bs ++ (ns.map numB).flatten) L' ∧ St w (keys L) L' w' := by
 have hS := St.enter hh
 generalize hT : keys L = T0 at hS ha ⊢
 refine en_pack_Writer_Num rfl ?_
 refine jq ⟨?_⟩
 refine SemW.loop (fun k : Nat => [(0, ptr b), (6, .slice a ns.length cap), (7, .int .i64 ns.length), (8, .int .i64 k)])
  (fun k w' => k ≤ ns.length ∧ ∃ L', PackW b (bs ++ ((ns.take k).map numB).flatten) L' ∧ St w T0 L' w') (fun k => ns.length - k) 0
  ⟨rfl, rfl, rfl, rfl, trivial⟩ ⟨kAg _, L, by simpa using hW, hS⟩ ?_
 rintro k w1 ⟨hk, L1, hW1, hS⟩
 by_cases hkl : k < ns.length
 ·obtain ⟨b', off', rfl, hbT, hck⟩ := ha.get (j := k) (by simp; omega)
  simp only [kCp] at hck
  have hs := numbs_succ ns k hkl
  have hnk := hn ns[k] (kAx hkl)
  have hln := numbs_len (ns.take k) (fun n h => hn n (kDd h))
  have hlt : (ns.take k).length = k := by simp; omega
  have h10 := numB_len10 _ hnk
  refine jq ⟨?_⟩
  refine hS.ldOld hbT (by simpa using hck) ?_
  refine jq ⟨?_⟩
  refine SemW.loop (fun x : Nat × Bytes => [(0, ptr b), (5, u64V x.1), (6, .slice (some ⟨b', off', none⟩) ns.length cap), (7, .int .i64 ns.length), (8, .int .i64 k)])
   (fun x w' => x.2 ++ numB x.1 = numB ns[k] ∧ ∃ L', PackW b (bs ++ ((ns.take k).map numB).flatten ++ x.2) L' ∧ St w T0 L' w') (fun x => x.1) (ns[k], [])
   ⟨rfl, rfl, rfl, rfl, rfl, trivial⟩ ⟨rfl, L1, by simpa using hW1, hS⟩ ?_
  rintro ⟨m, p⟩ w2 ⟨hp, L2, hW2, hS⟩
  simp only at hp hW2 ⊢
  have hpl := congrArg List.length hp
  rw [kAa] at hpl
  have hpos := numB_pos m
  by_cases hm : m < 128
  ·rw [numB_lt hm] at hp
   refine jq ⟨?_⟩
   refine hS.al ?_
   intro r w3 _ hS
   refine jq ⟨?_⟩
   refine Cl.mono (add_spec hW2 (hS.part (L := L2)) (xs := [UInt8.ofNat m]) (by rw [kAh, byteV_ofNat m (by omega)]; exact hS.arr (b := r) (nodup_new hS)) (by rw [kAa, kAa, kBv]; omega)) ?_
   rintro _ w4 ⟨L3, hW3, hS'⟩
   have hS := (hS.call (L := L2) hS').sub (kAb _ _)
   refine jq ⟨?_⟩
   refine ⟨k + 1, ⟨rfl, rfl, rfl, rfl, trivial⟩, ⟨by omega, L3, ?_, hS⟩, by omega⟩
   rw [hs, ← hp, ← kAc, ← kAc]
   exact hW3
  ·rw [numB_ge hm] at hp
   have hpos2 := numB_pos (m / 128)
   rw [numB_ge hm, kAe] at hpl
   refine jq ⟨?_⟩
   refine hS.al ?_
   intro r w3 _ hS
   refine jq ⟨?_⟩
   refine Cl.mono (add_spec hW2 (hS.part (L := L2)) (xs := [UInt8.ofNat (m % 128 + 128)]) (by have := hS.arr (b := r) (nodup_new hS); rw [or128] at this; exact this) (by rw [kAa, kAa, kBv]; omega)) ?_
   rintro _ w4 ⟨L3, hW3, hS'⟩
   have hS := (hS.call (L := L2) hS').sub (kAb _ _)
   refine jq ⟨?_⟩
   refine ⟨(m / 128, p ++ [UInt8.ofNat (m % 128 + 128)]), ⟨rfl, ?_, rfl, rfl, rfl, trivial⟩, ⟨by simpa using hp, L3, by rw [← kAc]; exact hW3, hS⟩, by simp only; omega⟩
   show Value.int .u64 ((m : Int).fdiv (2 ^ 7)) = u64V (m / 128)
   rw [fdivP]; rfl
 ·have hke : k = ns.length := by omega
  subst hke
  rw [kAr] at hW1
  refine jq ⟨?_⟩
  exact ⟨L1, hW1, hS⟩
theorem zig_eq (z : Int) (h1 : -9223372036854775808 ≤ z) (h2 : z ≤ 9223372036854775807) :
  xorI .u64 (IntKind.u64.wrap (IntKind.u64.wrap z * 2 ^ 1)) (IntKind.u64.wrap (z.fdiv (2 ^ 63))) = (zig z : Int) ∧ zig z < 18446744073709551616 := by
 unfold zig
 by_cases h0 : 0 ≤ z
 ·rw [if_pos h0]
  obtain ⟨n, rfl⟩ := Int.eq_ofNat_of_zero_le h0
  have e0 : ((n : Nat) : Int).toNat = n := Int.toNat_natCast n
  have e1 : IntKind.u64.wrap ((n : Nat) : Int) = (n : Int) := by rw [wrapU .u64 rfl]; congr 1; exact kBc (by show n < 18446744073709551616; omega)
  have e2 : IntKind.u64.wrap ((n : Int) * 2 ^ 1) = ((2 * n : Nat) : Int) := by
   rw [show ((n : Nat) : Int) * 2 ^ 1 = ((2 * n : Nat) : Int) by omega, wrapU .u64 rfl]; congr 1; exact kBc (by show 2 * n < 18446744073709551616; omega)
  have e3 : ((n : Nat) : Int).fdiv (2 ^ 63) = ((0 : Nat) : Int) := by
   rw [fdivP]; congr 1; exact Nat.div_eq_of_lt (by omega)
  have e4 : IntKind.u64.wrap ((0 : Nat) : Int) = ((0 : Nat) : Int) := by rw [wrapU .u64 rfl]; rfl
  rw [e0, e1, e2, e3, e4, xorU .u64 rfl _ _ (by show 2 * n < 18446744073709551616; omega) (by decide), Nat.xor_zero]
  exact ⟨rfl, by omega⟩
 ·rw [if_neg h0]
  obtain ⟨n, hn⟩ : ∃ n : Nat, z = -(n : Int) - 1 := ⟨(-(z + 1)).toNat, by omega⟩
  subst hn
  have hn9 : n < 9223372036854775808 := by omega
  have e0 : (-(-(n : Int) - 1 + 1)).toNat = n := by omega
  have e1 : IntKind.u64.wrap (-(n : Int) - 1) = ((18446744073709551615 - n : Nat) : Int) := by
   unfold IntKind.wrap; simp only [IntKind.signed, IntKind.bits]; simp; omega
  have e2 : IntKind.u64.wrap (((18446744073709551615 - n : Nat) : Int) * 2 ^ 1) = ((18446744073709551614 - 2 * n : Nat) : Int) := by
   rw [show ((18446744073709551615 - n : Nat) : Int) * 2 ^ 1 = ((2 * (18446744073709551615 - n) : Nat) : Int) by omega, wrapU .u64 rfl]; congr 1
   show 2 * (18446744073709551615 - n) % 18446744073709551616 = _; omega
  have e3 : (-(n : Int) - 1).fdiv (2 ^ 63) = -1 := by
   rw [Int.fdiv_eq_ediv_of_nonneg _ (by decide)]; omega
  have e4 : IntKind.u64.wrap (-1) = ((18446744073709551615 : Nat) : Int) := by decide
  rw [e0, e1, e2, e3, e4, xorU .u64 rfl _ _ (by show _ < 18446744073709551616; omega) (by decide)]
  have e5 : (18446744073709551614 - 2 * n) ^^^ 18446744073709551615 = 2 * n + 1 := by
   have h1 : (BitVec.ofNat 64 (18446744073709551614 - 2 * n) ^^^ BitVec.allOnes 64).toNat = (18446744073709551614 - 2 * n) ^^^ 18446744073709551615 := by
    rw [BitVec.toNat_xor, BitVec.toNat_allOnes, BitVec.toNat_ofNat, kBc (by omega)]
   rw [← h1, BitVec.xor_allOnes, BitVec.toNat_not, BitVec.toNat_ofNat, kBc (by omega)]; omega
  rw [e5]
  exact ⟨rfl, by omega⟩
theorem ints_succ (zs : List Int) (k : Nat) (hk : k < zs.length) : intsB (zs.take (k + 1)) = intsB (zs.take k) ++ intB zs[k] := by
 unfold intsB
 rw [kAn hk, kAi, kBy, kAh, kC, kBi, kCc, kAk]
def i64ok (z : Int) : Prop := -9223372036854775808 ≤ z ∧ z ≤ 9223372036854775807
theorem ints_len (zs : List Int) (h : ∀ z ∈ zs, i64ok z) : (intsB zs).length ≤ 10 * zs.length := by
 induction zs with
 |nil => simp [intsB]
 |cons z r ih =>
  have h1 := numB_len10 (zig z) (zig_eq z (h z (by simp)).1 (h z (by simp)).2).2
  have h2 := ih (fun m hm => h m (kAs _ hm))
  simp only [intsB, kAh, kBi, kAa, kAe, intB] at h2 ⊢; omega
set_option maxHeartbeats 1000000 in
theorem Int_spec {w : World} {b : Nat} {bs : Bytes} {L : Heap} (hW : PackW b bs L) (hh : Holds L w) {a : Option Addr} {cap : Nat} {zs : List Int} (ha : Arr w (keys L) a (zs.map intV)) (hn : ∀ z ∈ zs, i64ok z) (_hl : zs.length ≤ 1099511627776) (hlen : bs.length + 10 * zs.length ≤ 140737488355328) :
  Cl Tryz.prog f_pack_Writer_Int [ptr b, .slice a zs.length cap] w fun _ w' => ∃ L', PackW b (bs ++ intsB zs) L' ∧ St w (keys L) L' w' := by
 have hS := St.enter hh
 generalize hT : keys L = T0 at hS ha ⊢
 refine en_pack_Writer_Int rfl ?_
 refine jq ⟨?_⟩
 refine SemW.loop (fun k : Nat => [(0, ptr b), (6, .slice a zs.length cap), (7, .int .i64 zs.length), (8, .int .i64 k)])
  (fun k w' => k ≤ zs.length ∧ ∃ L', PackW b (bs ++ intsB (zs.take k)) L' ∧ St w T0 L' w') (fun k => zs.length - k) 0
  ⟨rfl, rfl, rfl, rfl, trivial⟩ ⟨kAg _, L, by simpa [intsB] using hW, hS⟩ ?_
 rintro k w1 ⟨hk, L1, hW1, hS⟩
 by_cases hkl : k < zs.length
 ·obtain ⟨b', off', rfl, hbT, hck⟩ := ha.get (j := k) (by simp; omega)
  simp only [kCp] at hck
  have hs := ints_succ zs k hkl
  obtain ⟨hr1, hr2⟩ := hn zs[k] (kAx hkl)
  obtain ⟨hz1, hz2⟩ := zig_eq zs[k] hr1 hr2
  have hln := ints_len (zs.take k) (fun n h => hn n (kDd h))
  have hlt : (zs.take k).length = k := by simp; omega
  refine jq ⟨?_⟩
  refine hS.ldOld hbT (by simpa using hck) ?_
  refine jq ⟨?_⟩
  refine hS.al ?_
  intro r w3 _ hS
  refine jq ⟨?_⟩
  refine Cl.mono (Num_spec hW1 (hS.part (L := L1)) (ns := [zig zs[k]]) (by have := hS.arr (b := r) (nodup_new hS); rw [show min (Int.toNat 1) IntKind.u64.bits = 1 from rfl, show min (Int.toNat 63) IntKind.i64.bits = 63 from rfl, hz1] at this; exact this) (by simpa using hz2) (by simp) (by rw [kAa, kBv]; omega)) ?_
  rintro _ w4 ⟨L3, hW3, hS'⟩
  have hS := (hS.call (L := L1) hS').sub (kAb _ _)
  refine jq ⟨?_⟩
  refine ⟨k + 1, ⟨rfl, rfl, rfl, rfl, trivial⟩, ⟨by omega, L3, ?_, hS⟩, by omega⟩
  rw [hs, ← kAc]
  simpa [intB] using hW3
 ·have hke : k = zs.length := by omega
  subst hke
  rw [kAr] at hW1
  refine jq ⟨?_⟩
  exact ⟨L1, hW1, hS⟩
theorem Bytes_spec {w : World} {b : Nat} {bs : Bytes} {L : Heap} (hW : PackW b bs L) (hh : Holds L w) : Cl Tryz.prog f_pack_Writer_Bytes [ptr b] w fun v w' => v = Str bs ∧ St w (keys L) L w' := by
 have hS := St.enter hh
 generalize hT : keys L = T0 at hS ⊢
 obtain ⟨a0, c0, L0, hv⟩ := hW
 refine en_pack_Writer_Bytes rfl ?_
 (repeat (refine jt ⟨?_⟩; refine hS.st rfl rfl ?_; intro _ hS)); refine jt ⟨?_⟩
 refine toStr (T := []) tblOk rfl rfl rfl rfl rfl rfl (bs := bs) rfl (fun w' hw' => by subst hw'; exact hv.arr hS (by simp)) ?_
 refine jq ⟨?_⟩
 exact ⟨rfl, hS⟩
abbrev rdC (t : Bytes) : Obj := .cells ⟨[Str t]⟩ T_pack_Reader (0, 0)
def numO (t : Bytes) : Nat × Int × Bytes := match numR t with
 |some (m, r) => (m, 0, r)
 |none => (0, 1, t)
theorem low7 (n c k : Nat) (hn : n < 2 ^ (7 * k)) (hc : c < 256) (hk : k ≤ 9) (h9 : k = 9 → c ≤ 1) :
  orI .u64 (n : Int) (IntKind.u64.wrap (andI .u8 (c : Int) 127 * 2 ^ (7 * k))) = ((n + c % 128 * 2 ^ (7 * k) : Nat) : Int) ∧ n + c % 128 * 2 ^ (7 * k) < 18446744073709551616 := by
 have e1 : andI .u8 (c : Int) 127 = ((c % 128 : Nat) : Int) := by
  have h := andU .u8 rfl c 127 hc (by decide)
  rw [show ((127 : Nat) : Int) = 127 from rfl] at h
  rw [h, show (127 : Nat) = 2 ^ 7 - 1 by rfl, kDp]
 have hb : n + c % 128 * 2 ^ (7 * k) < 18446744073709551616 := by
  have hm : c % 128 < 128 := kBn _ (by omega)
  by_cases h : k = 9
  ·subst h
   have := h9 rfl
   have h1 : c % 128 ≤ 1 := by omega
   have h2 : c % 128 * 2 ^ (7 * 9) ≤ 1 * 2 ^ (7 * 9) := kDn _ h1
   omega
  ·have h3 : 2 ^ (7 * k) ≤ 2 ^ (7 * 8) := Nat.pow_le_pow_right (by omega) (by omega)
   have h4 : c % 128 * 2 ^ (7 * k) ≤ 127 * 2 ^ (7 * k) := kDn _ (by omega)
   omega
 refine ⟨?_, hb⟩
 have e2 : ((c % 128 : Nat) : Int) * 2 ^ (7 * k) = ((c % 128 * 2 ^ (7 * k) : Nat) : Int) := by simp
 have e3 : c % 128 * 2 ^ (7 * k) % 2 ^ IntKind.u64.bits = c % 128 * 2 ^ (7 * k) := kBc (show c % 128 * 2 ^ (7 * k) < 18446744073709551616 by omega)
 rw [e1, e2, wrapU .u64 rfl, e3, orU .u64 rfl _ _ (show n < 18446744073709551616 by omega) (show _ < 18446744073709551616 by omega), Nat.or_comm, or_add _ _ _ hn, Nat.add_comm]
def numJ (t : Bytes) (k n : Nat) : Prop := k ≤ 10 ∧ k ≤ t.length ∧ n < 2 ^ (7 * k) ∧ numS 0 t = match numS k (t.drop k) with
 |some (m, r) => some (n + m * 2 ^ (7 * k), r)
 |none => none
theorem numJ_fail {t : Bytes} {k n : Nat} (h : numJ t k n) (hf : numS k (t.drop k) = none) : numO t = (0, 1, t) := by
 unfold numO numR
 rw [h.2.2.2, hf]
theorem numS_stop {t : Bytes} {k : Nat} (hk : ¬ (k < 10 ∧ k < t.length)) : numS k (t.drop k) = none := by
 cases h : t.drop k with
 |nil => rfl
 |cons c u =>
  have : k < t.length := by
   have := congrArg List.length h
   simp at this; omega
  unfold numS
  rw [if_pos (by omega)]
theorem numS_at {t : Bytes} {k : Nat} (hk : k < t.length) : numS k (t.drop k) = if 9 < k ∨ (k = 9 ∧ 1 < t[k].toNat) ∨ (0 < k ∧ t[k].toNat = 0) then none
  else if t[k].toNat < 128 then some (t[k].toNat, t.drop (k + 1))
  else match numS (k + 1) (t.drop (k + 1)) with
   |some (m, r) => some (t[k].toNat % 128 + 128 * m, r)
   |none => none := by
 rw [kBs hk, numS]
 all_goals rfl
theorem numJ_done {t : Bytes} {k n : Nat} (h : numJ t k n) (hk : k < t.length) (h1 : ¬ (9 < k ∨ (k = 9 ∧ 1 < t[k].toNat) ∨ (0 < k ∧ t[k].toNat = 0))) (h2 : t[k].toNat < 128) :
  numO t = (n + t[k].toNat % 128 * 2 ^ (7 * k), 0, t.drop (k + 1)) := by
 unfold numO numR
 rw [h.2.2.2, numS_at hk, if_neg h1, if_pos h2, kBc h2]
theorem numJ_next {t : Bytes} {k n : Nat} (h : numJ t k n) (hk : k < t.length) (h1 : ¬ (9 < k ∨ (k = 9 ∧ 1 < t[k].toNat) ∨ (0 < k ∧ t[k].toNat = 0))) (h2 : ¬ t[k].toNat < 128) :
  numJ t (k + 1) (n + t[k].toNat % 128 * 2 ^ (7 * k)) := by
 obtain ⟨h3, h4, h5, h6⟩ := h
 refine ⟨by omega, by omega, ?_, ?_⟩
 ·rw [show 7 * (k + 1) = 7 * k + 7 by omega, Nat.pow_add]
  have h4 : t[k].toNat % 128 * 2 ^ (7 * k) ≤ 127 * 2 ^ (7 * k) := kDn _ (by omega)
  generalize 2 ^ (7 * k) = P at *
  omega
 ·rw [h6, numS_at hk, if_neg h1, if_neg h2]
  cases numS (k + 1) (t.drop (k + 1)) with
  |none => rfl
  |some x =>
   obtain ⟨m, r⟩ := x
   simp only [Option.some.injEq, Prod.mk.injEq, and_true]
   rw [show 7 * (k + 1) = 7 * k + 7 by omega, Nat.pow_add, kCg, kCs]
   congr 2
   rw [show 2 ^ (7 * k) * 2 ^ 7 = 128 * 2 ^ (7 * k) by omega, kCk 128 m, Nat.mul_assoc]
theorem low7' (n c k : Nat) (hn : n < 2 ^ (7 * k)) (hc : c < 256) (hk : k ≤ 9) (h9 : k = 9 → c ≤ 1) :
  orI .u64 (n : Int) (IntKind.u64.wrap (IntKind.u64.wrap (andI .u8 (c : Int) 127) * 2 ^ min (7 * (k : Int)).toNat IntKind.u64.bits)) = ((n + c % 128 * 2 ^ (7 * k) : Nat) : Int) := by
 have h := (low7 n c k hn hc hk h9).1
 have e1 : andI .u8 (c : Int) 127 = ((c % 128 : Nat) : Int) := by
  have h := andU .u8 rfl c 127 hc (by decide)
  rw [show ((127 : Nat) : Int) = 127 from rfl] at h
  rw [h, show (127 : Nat) = 2 ^ 7 - 1 by rfl, kDp]
 have e2 : IntKind.u64.wrap (((c % 128 : Nat) : Nat) : Int) = ((c % 128 : Nat) : Int) := by
  rw [wrapU .u64 rfl]; congr 1; exact kBc (by show _ < 18446744073709551616; omega)
 have e3 : min (7 * (k : Int)).toNat IntKind.u64.bits = 7 * k := by show min _ 64 = _; omega
 rw [e1] at h ⊢
 rw [e2, e3]; exact h
set_option maxHeartbeats 4000000 in
theorem RNum_spec {w : World} {b : Nat} {t : Bytes} (hh : Holds [(b, rdC t)] w) (ht : t.length ≤ 70368744177664) :
  Cl Tryz.prog f_pack_Reader_Num [ptr b] w fun v w' => v = .tuple ⟨[.int .u64 (numO t).1, .int .i64 (numO t).2.1]⟩ ∧ St w [b] [(b, rdC (numO t).2.2)] w' := by
 have hS : St w [b] [(b, rdC t)] w := St.enter hh
 refine en_pack_Reader_Num rfl ?_
 refine jq ⟨?_⟩
 refine SemW.loop (fun x : Nat × Nat => [(0, ptr b), (4, .int .u64 x.2), (5, .int .i64 x.1)])
  (fun x w' => numJ t x.1 x.2 ∧ St w [b] [(b, rdC t)] w') (fun x => 10 - x.1) (0, 0)
  ⟨rfl, rfl, rfl, trivial⟩ ⟨⟨by omega, by omega, by simp, by simp only [List.drop_zero]; cases numS 0 t <;> simp⟩, hS⟩ ?_
 rintro ⟨k, n⟩ w1 ⟨hJ, hS⟩
 simp only at hJ hS ⊢
 have hkk := hJ.1
 have hkl := hJ.2.1
 by_cases hk : k < 10 ∧ k < t.length
 ·obtain ⟨hk10, hkt⟩ := hk
  have hmin : ((k : Int) < min 10 (t.length : Int)) := by omega
  (repeat (refine jt ⟨?_⟩; refine hS.st rfl rfl ?_; intro _ hS)); refine jt ⟨?_⟩
  obtain ⟨c, hc⟩ : ∃ c, c = t.getD ((k : Int)).toNat 0 := ⟨_, rfl⟩
  have hct : c = t[k] := by rw [hc]; simp [hkt]
  rw [← hc]
  have hclt := c.toNat_lt
  by_cases h9 : k = 9
  ·by_cases h1 : 1 < c.toNat
   ·(repeat (refine jt ⟨?_⟩; refine hS.st rfl rfl ?_; intro _ hS)); refine jt ⟨?_⟩
    rw [numJ_fail hJ (by rw [numS_at hkt, if_pos (by rw [← hct]; omega)])]
    exact ⟨rfl, hS⟩
   ·by_cases hz : c.toNat = 0
    ·(repeat (refine jt ⟨?_⟩; refine hS.st rfl rfl ?_; intro _ hS)); refine jt ⟨?_⟩
     rw [numJ_fail hJ (by rw [numS_at hkt, if_pos (by rw [← hct]; omega)])]
     exact ⟨rfl, hS⟩
    ·have hl7 := low7' n c.toNat k hJ.2.2.1 c.toNat_lt (by omega) (by omega)
     have hnb : ¬ (9 < k ∨ (k = 9 ∧ 1 < t[k].toNat) ∨ (0 < k ∧ t[k].toNat = 0)) := by rw [← hct]; omega
     have ek : ((k : Int) + 1).toNat = k + 1 := by omega
     by_cases h128 : c.toNat < 128
     ·have hdn := numJ_done hJ hkt hnb (by rw [← hct]; exact h128)
      rw [← hct] at hdn
      (repeat (refine jt ⟨?_⟩; refine hS.st rfl rfl ?_; intro _ hS)); refine jt ⟨?_⟩
      rw [hdn]
      rw [ek] at hS
      exact ⟨congrArg (fun z => Value.tuple ⟨[.int .u64 z, .int .i64 0]⟩) hl7, hS⟩
     ·have hnx := numJ_next hJ hkt hnb (by rw [← hct]; exact h128)
      rw [← hct] at hnx
      first
      |(exfalso; omega)
      |((repeat (refine jt ⟨?_⟩; refine hS.st rfl rfl ?_; intro _ hS)); refine jt ⟨?_⟩
        exact ⟨(k + 1, n + c.toNat % 128 * 2 ^ (7 * k)), ⟨rfl, congrArg (Value.int .u64) hl7, rfl, trivial⟩, ⟨hnx, hS⟩, by simp only; omega⟩)
  ·by_cases h0 : 0 < k
   ·by_cases hz : c.toNat = 0
    ·(repeat (refine jt ⟨?_⟩; refine hS.st rfl rfl ?_; intro _ hS)); refine jt ⟨?_⟩
     rw [numJ_fail hJ (by rw [numS_at hkt, if_pos (by rw [← hct]; omega)])]
     exact ⟨rfl, hS⟩
    ·have hl7 := low7' n c.toNat k hJ.2.2.1 c.toNat_lt (by omega) (by omega)
     have hnb : ¬ (9 < k ∨ (k = 9 ∧ 1 < t[k].toNat) ∨ (0 < k ∧ t[k].toNat = 0)) := by rw [← hct]; omega
     have ek : ((k : Int) + 1).toNat = k + 1 := by omega
     by_cases h128 : c.toNat < 128
     ·have hdn := numJ_done hJ hkt hnb (by rw [← hct]; exact h128)
      rw [← hct] at hdn
      (repeat (refine jt ⟨?_⟩; refine hS.st rfl rfl ?_; intro _ hS)); refine jt ⟨?_⟩
      rw [hdn]
      rw [ek] at hS
      exact ⟨congrArg (fun z => Value.tuple ⟨[.int .u64 z, .int .i64 0]⟩) hl7, hS⟩
     ·have hnx := numJ_next hJ hkt hnb (by rw [← hct]; exact h128)
      rw [← hct] at hnx
      first
      |(exfalso; omega)
      |((repeat (refine jt ⟨?_⟩; refine hS.st rfl rfl ?_; intro _ hS)); refine jt ⟨?_⟩
        exact ⟨(k + 1, n + c.toNat % 128 * 2 ^ (7 * k)), ⟨rfl, congrArg (Value.int .u64) hl7, rfl, trivial⟩, ⟨hnx, hS⟩, by simp only; omega⟩)
   ·have hl7 := low7' n c.toNat k hJ.2.2.1 c.toNat_lt (by omega) (by omega)
    have hnb : ¬ (9 < k ∨ (k = 9 ∧ 1 < t[k].toNat) ∨ (0 < k ∧ t[k].toNat = 0)) := by rw [← hct]; omega
    have ek : ((k : Int) + 1).toNat = k + 1 := by omega
    by_cases h128 : c.toNat < 128
    ·have hdn := numJ_done hJ hkt hnb (by rw [← hct]; exact h128)
     rw [← hct] at hdn
     (repeat (refine jt ⟨?_⟩; refine hS.st rfl rfl ?_; intro _ hS)); refine jt ⟨?_⟩
     rw [hdn]
     rw [ek] at hS
     exact ⟨congrArg (fun z => Value.tuple ⟨[.int .u64 z, .int .i64 0]⟩) hl7, hS⟩
    ·have hnx := numJ_next hJ hkt hnb (by rw [← hct]; exact h128)
     rw [← hct] at hnx
     first
     |(exfalso; omega)
     |((repeat (refine jt ⟨?_⟩; refine hS.st rfl rfl ?_; intro _ hS)); refine jt ⟨?_⟩
       exact ⟨(k + 1, n + c.toNat % 128 * 2 ^ (7 * k)), ⟨rfl, congrArg (Value.int .u64) hl7, rfl, trivial⟩, ⟨hnx, hS⟩, by simp only; omega⟩)
 ·have hmin : ¬ ((k : Int) < min 10 (t.length : Int)) := by omega
  (repeat (refine jt ⟨?_⟩; refine hS.st rfl rfl ?_; intro _ hS)); refine jt ⟨?_⟩
  rw [numJ_fail hJ (numS_stop hk)]
  exact ⟨rfl, hS⟩
def intO (t : Bytes) : Int × Int × Bytes := (unzig (numO t).1, (numO t).2)
theorem numO_lt (t : Bytes) : (numO t).1 < 18446744073709551616 := by
 unfold numO
 cases h : numR t with
 |none => show 0 < 18446744073709551616; omega
 |some x => obtain ⟨m, r⟩ := x; exact ((numR_iff t m r).1 h).2
theorem numO_len (t : Bytes) : (numO t).2.2.length ≤ t.length := by
 unfold numO
 cases h : numR t with
 |none => exact kAd _
 |some x =>
  obtain ⟨m, r⟩ := x
  have := congrArg List.length ((numR_iff t m r).1 h).1
  simp only [kAa] at this
  show r.length ≤ t.length
  omega
theorem unz_eq (u : Nat) (h : u < 18446744073709551616) : xorI .i64 ((u / 2 : Nat) : Int) (0 - ((u % 2 : Nat) : Int)) = unzig u := by
 show IntKind.i64.wrap (((BitVec.ofInt 64 ((u / 2 : Nat) : Int) ^^^ BitVec.ofInt 64 (0 - ((u % 2 : Nat) : Int))).toNat : Nat) : Int) = _
 have e1 : BitVec.ofInt 64 ((u / 2 : Nat) : Int) = BitVec.ofNat 64 (u / 2) := BitVec.ofInt_natCast ..
 unfold unzig
 by_cases h2 : u % 2 = 0
 ·rw [if_pos h2, h2]
  have e2 : BitVec.ofInt 64 (0 - ((0 : Nat) : Int)) = 0#64 := by decide
  rw [e1, e2, BitVec.xor_zero, BitVec.toNat_ofNat, kBc (by omega)]
  unfold IntKind.wrap; simp only [IntKind.signed, IntKind.bits]; simp; omega
 ·rw [if_neg h2, show u % 2 = 1 by omega]
  have e2 : BitVec.ofInt 64 (0 - ((1 : Nat) : Int)) = BitVec.allOnes 64 := by decide
  rw [e1, e2, BitVec.xor_allOnes, BitVec.toNat_not, BitVec.toNat_ofNat, kBc (by omega)]
  unfold IntKind.wrap; simp only [IntKind.signed, IntKind.bits]; simp; omega
set_option maxHeartbeats 1000000 in
theorem RInt_spec {w : World} {b : Nat} {t : Bytes} (hh : Holds [(b, rdC t)] w) (ht : t.length ≤ 70368744177664) :
  Cl Tryz.prog f_pack_Reader_Int [ptr b] w fun v w' => v = .tuple ⟨[.int .i64 (intO t).1, .int .i64 (intO t).2.1]⟩ ∧ St w [b] [(b, rdC (intO t).2.2)] w' := by
 refine en_pack_Reader_Int rfl ?_
 refine jq ⟨?_⟩
 refine Cl.mono (RNum_spec hh ht) ?_
 rintro _ w1 ⟨rfl, hS⟩
 unfold intO
 have hlt := numO_lt t
 generalize numO t = x at hS hlt ⊢
 obtain ⟨u, e, r⟩ := x
 simp only at hS hlt ⊢
 have e1 : (u : Int).fdiv (2 ^ min (Int.toNat 1) IntKind.u64.bits) = ((u / 2 : Nat) : Int) := by
  show (u : Int).fdiv (2 ^ 1) = _
  rw [fdivP]
 have e2 : andI .u64 (u : Int) 1 = ((u % 2 : Nat) : Int) := by
  have h := andU .u64 rfl u 1 hlt (by decide)
  rw [show ((1 : Nat) : Int) = 1 from rfl] at h
  rw [h, show (1 : Nat) = 2 ^ 1 - 1 by rfl, kDp]
 have hz := unz_eq u hlt
 refine jq ⟨?_⟩
 rw [e1]
 refine jq ⟨?_⟩
 rw [e2]
 refine jq ⟨?_⟩
 exact ⟨congrArg (fun z => Value.tuple ⟨[.int .i64 z, .int .i64 e]⟩) hz, hS⟩
theorem RDone_spec {w : World} {b : Nat} {t : Bytes} (hh : Holds [(b, rdC t)] w) :
  Cl Tryz.prog f_pack_Reader_Done [ptr b] w fun v w' => v = .bool (decide (t = [])) ∧ St w [] [] w' := by
 have hS : St w [b] [(b, rdC t)] w := St.enter hh
 refine en_pack_Reader_Done rfl ?_
 (repeat (refine jt ⟨?_⟩; refine hS.st rfl rfl ?_; intro _ hS)); refine jt ⟨?_⟩
 exact ⟨rfl, St.start w⟩
theorem PRead_spec {w : World} {t : Bytes} : Cl Tryz.prog f_pack_Read [Str t] w fun v w' => ∃ b, v = ptr b ∧ St w [] [(b, rdC t)] w' := by
 have hS := St.start w
 refine en_pack_Read rfl ?_
 refine jq ⟨?_⟩
 refine hS.al ?_
 intro b w1 _ hS
 refine jq ⟨?_⟩
 exact ⟨b, rfl, hS⟩
end Go.Proofs.YtkgibdhpijdbfaaGreatDoor
namespace Go.Proofs.YtkgibdhpijdbfaaGreatDoor
open Go Go.Eng
theorem zig_ok {z : Int} (h : i64ok z) : zig z < 18446744073709551616 := by
 unfold i64ok at h; unfold zig; split <;> omega
structure RB where
 t : Bytes
 bad : Bool
end Go.Proofs.YtkgibdhpijdbfaaGreatDoor
namespace Go.Proofs.YtkgibdhpijdbfaaGreatDoor
open Go Go.Eng Go.Proofs Go.Srt
def fileB (f : FileM) : Bytes := intB f.1 ++ intB f.2
def filesB (l : List FileM) : Bytes := (l.map fileB).flatten
def editB (e : EM) : Bytes := numB e.add.length ++ filesB e.add ++ numB e.del.length ++ intsB e.del ++ intB e.wal ++ intB e.next ++ intB e.seq
structure OkE (e : EM) : Prop where
 add : ∀ f ∈ e.add, i64ok f.1 ∧ i64ok f.2
 del : ∀ n ∈ e.del, i64ok n
 wal : i64ok e.wal
 next : i64ok e.next
 seq : i64ok e.seq
end Go.Proofs.YtkgibdhpijdbfaaGreatDoor
namespace Go.Proofs.YtkgibdhpijdbfaaGreatDoor
open Go Go.Eng Go.Proofs
structure EntM where
 k : Bytes
 s : Int
 d : Bool
 v : Bytes
 deriving DecidableEq
def entC (e : EntM) : List Value := [Str e.k, .int .i64 e.s, .bool e.d, Str e.v]
def eltP (a : EntM) (k : Bytes) (s : Int) : Bool := Op.bytesLess a.k k || (decide (a.k = k) && decide (s < a.s))
def elt (a b : EntM) : Bool := eltP a b.k b.s
def ecmp (a b : EntM) : Int := if Lib.compareBytes a.k b.k ≠ 0 then Lib.compareBytes a.k b.k else if b.s < a.s then -1 else if a.s < b.s then 1 else 0
def Same (a b : EntM) : Prop := a.k = b.k ∧ a.s = b.s
theorem cmp_lt (a b : Bytes) : Lib.compareBytes a b < 0 ↔ Op.bytesLess a b = true := by rw [← cmp_less]; simp
theorem ecmp_lt (a b : EntM) : ecmp a b < 0 ↔ elt a b = true := by
 unfold ecmp elt eltP
 simp only [Bool.or_eq_true, Bool.and_eq_true, decide_eq_true_eq]
 by_cases h : Lib.compareBytes a.k b.k = 0
 ·rw [if_neg (by simpa using h)]
  have h2 := (cmp_zero _ _).1 h
  have h3 : ¬ Op.bytesLess a.k b.k = true := by rw [h2, bless_irrefl]; simp
  constructor
  ·intro h4
   right; refine ⟨h2, ?_⟩
   split at h4
   ·assumption
   ·split at h4 <;> omega
  ·rintro (h4 | ⟨_, h4⟩)
   ·exact absurd h4 h3
   ·rw [if_pos h4]; decide
 ·rw [if_pos h, cmp_lt]
  constructor
  ·exact .inl
  ·rintro (h4 | ⟨h4, _⟩)
   ·exact h4
   ·exact absurd ((cmp_zero _ _).2 h4) h
theorem ecmp_zero (a b : EntM) : ecmp a b = 0 ↔ Same a b := by
 unfold ecmp Same
 by_cases h : Lib.compareBytes a.k b.k = 0
 ·rw [if_neg (by simpa using h)]
  have h2 := (cmp_zero _ _).1 h
  constructor
  ·intro h4
   refine ⟨h2, ?_⟩
   split at h4
   ·cases h4
   ·split at h4
    ·cases h4
    ·omega
  ·rintro ⟨_, h4⟩
   rw [if_neg (by omega), if_neg (by omega)]
 ·rw [if_pos h]
  exact ⟨fun h4 => absurd h4 h, fun h4 => absurd ((cmp_zero _ _).2 h4.1) h⟩
theorem elt_iff (a b : EntM) : elt a b = true ↔ Op.bytesLess a.k b.k = true ∨ (a.k = b.k ∧ b.s < a.s) := by unfold elt eltP; simp
theorem elt_irrefl (a : EntM) : elt a a = false := by unfold elt eltP; rw [bless_irrefl]; simp
theorem elt_trans {a b c : EntM} (h1 : elt a b = true) (h2 : elt b c = true) : elt a c = true := by
 rw [elt_iff] at *
 rcases h1 with h1 | ⟨h1, h1'⟩
 ·rcases h2 with h2 | ⟨h2, _⟩
  ·exact .inl (bless_trans _ _ _ h1 h2)
  ·exact .inl (h2 ▸ h1)
 ·rcases h2 with h2 | ⟨h2, h2'⟩
  ·exact .inl (h1 ▸ h2)
  ·exact .inr ⟨h1.trans h2, by omega⟩
theorem elt_tri (a b : EntM) : elt a b = true ∨ Same a b ∨ elt b a = true := by
 rw [elt_iff, elt_iff]; unfold Same
 rcases bless_tri a.k b.k with h | h | h
 ·exact .inl (.inl h)
 ·rcases Int.lt_trichotomy a.s b.s with h2 | h2 | h2
  ·exact .inr (.inr (.inr ⟨h.symm, h2⟩))
  ·exact .inr (.inl ⟨h, h2⟩)
  ·exact .inl (.inr ⟨h, h2⟩)
 ·exact .inr (.inr (.inl h))
theorem elt_asym {a b : EntM} (h : elt a b = true) : elt b a = false := by
 cases h2 : elt b a with
 |false => rfl
 |true => have := elt_trans h h2; rw [elt_irrefl] at this; cases this
theorem elt_same {a b c : EntM} (h : Same a b) : elt a c = elt b c ∧ elt c a = elt c b := by
 obtain ⟨h1, h2⟩ := h
 unfold elt eltP; rw [h1, h2]; exact ⟨rfl, rfl⟩
abbrev Rise (l : List EntM) : Prop := l.Pairwise fun a b => elt a b = true
def fromE (k : Bytes) (s : Int) : List EntM → List EntM
 |[] => []
 |x :: l => if eltP x k s then fromE k s l else x :: l
def toE (k : Bytes) (s : Int) : List EntM → List EntM
 |[] => []
 |x :: l => if eltP x k s then x :: toE k s l else []
theorem to_from (k : Bytes) (s : Int) : ∀ l, toE k s l ++ fromE k s l = l
 |[] => rfl
 |x :: l => by
  unfold toE fromE
  split
  ·rw [kBe, to_from k s l]
  ·rfl
theorem toE_lt (k : Bytes) (s : Int) : ∀ l, ∀ x ∈ toE k s l, eltP x k s = true
 |[], x, h => by simp [toE] at h
 |y :: l, x, h => by
  unfold toE at h
  split at h
  ·rcases kAf.1 h with rfl | h
   ·assumption
   ·exact toE_lt k s l x h
  ·simp at h
theorem fromE_ge {k : Bytes} {s : Int} : ∀ {l : List EntM}, Rise l → ∀ x ∈ fromE k s l, eltP x k s = false
 |[], _, x, h => by simp [fromE] at h
 |y :: l, hr, x, h => by
  unfold fromE at h
  have hr' := kBa.1 hr
  split at h
  ·exact fromE_ge hr'.2 x h
  ·rename_i hy
   rcases kAf.1 h with rfl | h
   ·simpa using hy
   ·cases hx : eltP x k s with
    |false => rfl
    |true =>
     have h1 : elt y x = true := hr'.1 x h
     have : eltP y k s = true := elt_trans (c := ⟨k, s, false, []⟩) h1 hx
     exact absurd this hy
def getE (l : List EntM) (k : Bytes) (s : Int) : Option EntM :=
 match fromE k s l with
 |[] => none
 |x :: _ => if x.k = k then some x else none
def insE (x : EntM) : List EntM → List EntM
 |[] => [x]
 |y :: l => if elt y x then y :: insE x l else if y.k = x.k ∧ y.s = x.s then x :: l else x :: y :: l
theorem insE_eq (x : EntM) : ∀ l, insE x l = toE x.k x.s l ++ x :: (match fromE x.k x.s l with | [] => [] | y :: r => if y.k = x.k ∧ y.s = x.s then r else y :: r)
 |[] => rfl
 |y :: l => by
  unfold insE toE fromE
  show (if eltP y x.k x.s = true then _ else _) = _
  split
  ·rw [insE_eq x l]; rfl
  ·show _ = x :: (if y.k = x.k ∧ y.s = x.s then l else y :: l)
   by_cases hs : y.k = x.k ∧ y.s = x.s
   ·rw [if_pos hs, if_pos hs]
   ·rw [if_neg hs, if_neg hs]
theorem insE_mem (x : EntM) : ∀ l z, z ∈ insE x l ↔ z = x ∨ (z ∈ l ∧ ¬ (z.k = x.k ∧ z.s = x.s)) ∨ (z ∈ l ∧ z.k = x.k ∧ z.s = x.s ∧ z ∈ insE x l)
 |l, z => by
  constructor
  ·intro h
   by_cases hz : z = x
   ·exact .inl hz
   ·right
    have hl : z ∈ l := by
     rw [insE_eq] at h
     have hm : ∀ w, w ∈ fromE x.k x.s l → w ∈ l := fun w hw => by rw [← to_from x.k x.s l]; exact kBp _ hw
     rcases kAl.1 h with h | h
     ·rw [← to_from x.k x.s l]; exact kBm _ h
     ·rcases kAf.1 h with h | h
      ·exact absurd h hz
      ·split at h
       ·simp at h
       ·rename_i y r hf
        split at h
        ·exact hm z (by rw [hf]; exact kAs _ h)
        ·exact hm z (by rw [hf]; exact h)
    by_cases hs : z.k = x.k ∧ z.s = x.s
    ·exact .inr ⟨hl, hs.1, hs.2, h⟩
    ·exact .inl ⟨hl, hs⟩
  ·rintro (h | ⟨h1, h2⟩ | ⟨_, _, _, h⟩)
   ·subst h; rw [insE_eq]; exact kBp _ (kAt ..)
   ·rw [insE_eq]
    rw [← to_from x.k x.s l] at h1
    rcases kAl.1 h1 with h1 | h1
    ·exact kBm _ h1
    ·refine kBp _ (kAs _ ?_)
     split
     ·rename_i hf; rw [hf] at h1; simp at h1
     ·rename_i y r hf
      rw [hf] at h1
      split
      ·rename_i hs
       rcases kAf.1 h1 with rfl | h1
       ·exact absurd hs h2
       ·exact h1
      ·exact h1
   ·exact h
theorem rise_app {a b : List EntM} : Rise (a ++ b) ↔ Rise a ∧ Rise b ∧ ∀ x ∈ a, ∀ y ∈ b, elt x y = true := kBx
theorem insE_rise {x : EntM} {l : List EntM} (h : Rise l) : Rise (insE x l) := by
 have hsp := to_from x.k x.s l
 have h' := h
 rw [← hsp, rise_app] at h'
 obtain ⟨h1, h2, h3⟩ := h'
 have hge := fromE_ge (k := x.k) (s := x.s) h
 rw [insE_eq, rise_app]
 have hlt := toE_lt x.k x.s l
 have tail : ∀ y ∈ (match fromE x.k x.s l with | [] => [] | y :: r => if y.k = x.k ∧ y.s = x.s then r else y :: r), elt x y = true := by
  intro y hy
  cases hf : fromE x.k x.s l with
  |nil => rw [hf] at hy; simp at hy
  |cons z r =>
   rw [hf] at hy h2
   have hz := hge z (by rw [hf]; exact kAt ..)
   have hz2 := (kBa.1 h2).1
   simp only at hy
   split at hy
   ·rename_i hs
    have : elt z y = true := hz2 y hy
    rw [(elt_same (a := z) (b := x) ⟨hs.1, hs.2⟩).1] at this
    exact this
   ·rename_i hs
    have hxz : elt x z = true := by
     rcases elt_tri x z with h | h | h
     ·exact h
     ·exact absurd ⟨h.1.symm, h.2.symm⟩ hs
     ·have : elt z x = false := hz
      rw [this] at h; cases h
    rcases kAf.1 hy with rfl | hy
    ·exact hxz
    ·exact elt_trans hxz (hz2 y hy)
 refine ⟨h1, kBa.2 ⟨tail, ?_⟩, ?_⟩
 ·cases hf : fromE x.k x.s l with
  |nil => exact List.Pairwise.nil
  |cons z r =>
   rw [hf] at h2
   simp only
   split
   ·exact (kBa.1 h2).2
   ·exact h2
 ·intro a ha y hy
  have hax : elt a x = true := hlt a ha
  rcases kAf.1 hy with rfl | hy
  ·exact hax
  ·exact elt_trans hax (tail y hy)
def shareN : Bytes → Bytes → Nat
 |a :: x, b :: y => if a = b then shareN x y + 1 else 0
 |_, _ => 0
theorem shareN_le : ∀ a b : Bytes, shareN a b ≤ a.length ∧ shareN a b ≤ b.length
 |[], _ => by simp [shareN]
 |_ :: _, [] => by simp [shareN]
 |a :: x, b :: y => by
  have := shareN_le x y
  unfold shareN
  split <;> simp only [kAe] <;> omega
theorem shareN_take : ∀ a b : Bytes, a.take (shareN a b) = b.take (shareN a b)
 |[], _ => by simp [shareN]
 |_ :: _, [] => by simp [shareN]
 |a :: x, b :: y => by
  unfold shareN
  split
  ·rename_i h; subst h; simp only [List.take_succ_cons, shareN_take x y]
  ·simp
theorem shareN_join (a b : Bytes) : a.take (shareN a b) ++ b.drop (shareN a b) = b := by rw [shareN_take, kAu]
theorem shareN_eq : ∀ (a b : Bytes) (n : Nat), n ≤ a.length → n ≤ b.length → (∀ i (h1 : i < a.length) (h2 : i < b.length), i < n → a[i] = b[i]) → (∀ (h1 : n < a.length) (h2 : n < b.length), a[n] ≠ b[n]) → shareN a b = n
 |[], b, n, h1, _, _, _ => by simp at h1; subst h1; simp [shareN]
 |_ :: _, [], n, _, h2, _, _ => by simp at h2; subst h2; simp [shareN]
 |a :: x, b :: y, 0, _, _, _, h4 => by
  have := h4 (by simp) (by simp)
  simp at this
  unfold shareN; rw [if_neg this]
 |a :: x, b :: y, n + 1, h1, h2, h3, h4 => by
  have h5 := h3 0 (by simp) (by simp) (by omega)
  simp at h5; subst h5
  unfold shareN; rw [if_pos rfl]
  congr 1
  refine shareN_eq x y n (by simpa using h1) (by simpa using h2) (fun i hi hj hn => ?_) (fun hi hj => ?_)
  ·have := h3 (i + 1) (by simpa using hi) (by simpa using hj) (by omega)
   simpa using this
  ·have := h4 (by simpa using hi) (by simpa using hj)
   simpa using this
def entB (last : Bytes) (x : EntM) : Bytes := numB (shareN last x.k) ++ (textB (x.k.drop (shareN last x.k)) ++ (intB x.s ++ (if x.d then numB 1 else numB 0 ++ textB x.v)))
def entsB : Bytes → List EntM → Bytes
 |_, [] => []
 |last, x :: l => entB last x ++ entsB x.k l
def lastK (last : Bytes) (l : List EntM) : Bytes := match l.getLast? with | none => last | some x => x.k
theorem lastK_snoc (last : Bytes) (l : List EntM) (x : EntM) : lastK last (l ++ [x]) = x.k := by simp [lastK]
theorem entsB_snoc : ∀ (l : List EntM) (last : Bytes) (x : EntM), entsB last (l ++ [x]) = entsB last l ++ entB (lastK last l) x
 |[], last, x => by simp [entsB, lastK]
 |y :: l, last, x => by
  rw [kBe, entsB, entsB, entsB_snoc l y.k x, kAc]
  have : lastK y.k l = lastK last (y :: l) := by
   unfold lastK
   cases l with
   |nil => rfl
   |cons z l =>
    rw [List.getLast?_cons_cons]
    cases h : (z :: l).getLast? with
    |none => simp at h
    |some u => rfl
  rw [this]
def blockB (es : List EntM) : Bytes := numB es.length ++ entsB [] es
def FineE (l : List EntM) : Prop := ∀ x ∈ l, x.d = true → x.v = []
def SeqsE (l : List EntM) : Prop := ∀ x ∈ l, -9223372036854775808 ≤ x.s ∧ x.s ≤ 9223372036854775807
def szE (x : EntM) : Nat := x.k.length + x.v.length
def szsE (l : List EntM) : Nat := (l.map szE).sum
theorem szsE_app (a b : List EntM) : szsE (a ++ b) = szsE a + szsE b := by simp [szsE]
theorem szsE_mem {l : List EntM} {x : EntM} (h : x ∈ l) : szE x ≤ szsE l := by
 induction l with
 |nil => cases h
 |cons y l ih =>
  have e : szsE (y :: l) = szE y + szsE l := by simp [szsE]
  rcases kAf.1 h with rfl | h
  ·omega
  ·have := ih h; omega
theorem szsE_take (l : List EntM) (k : Nat) : szsE (l.take k) ≤ szsE l := by
 have := szsE_app (l.take k) (l.drop k)
 rw [kAu] at this; omega
/-! ## Pieces of so many -/
def pieces {α : Type} (n : Nat) (l : List α) : List (List α) := (List.range ((l.length + n - 1) / n)).map fun i => (l.drop (i * n)).take n
theorem pieces_len {α : Type} (n : Nat) (l : List α) : (pieces n l).length = (l.length + n - 1) / n := by simp [pieces]
theorem pieces_get {α : Type} {n : Nat} {l : List α} {i : Nat} (h : i < (pieces n l).length) : (pieces n l)[i] = (l.drop (i * n)).take n := by simp [pieces]
theorem pieces_take {α : Type} {n : Nat} (hn : 0 < n) (l : List α) : ∀ i, i ≤ (pieces n l).length → ((pieces n l).take i).flatten = l.take (i * n)
 |0, _ => by simp
 |i + 1, h => by
  have hi : i < (pieces n l).length := by omega
  rw [kAn hi, kBy, pieces_take hn l i (by omega), pieces_get hi]
  simp only [kBi, kCc, kAk]
  rw [show (i + 1) * n = i * n + n by rw [kCg]; omega, List.take_add]
theorem pieces_flat {α : Type} {n : Nat} (hn : 0 < n) (l : List α) : (pieces n l).flatten = l := by
 have h := pieces_take hn l (pieces n l).length (kAd _)
 rw [kAr] at h
 rw [h, pieces_len]
 refine kDi ?_
 have := Nat.div_add_mod (l.length + n - 1) n
 have := kBn (l.length + n - 1) hn
 have e : (l.length + n - 1) / n * n = n * ((l.length + n - 1) / n) := kCk _ _
 omega
theorem pieces_lt {α : Type} {n : Nat} (hn : 0 < n) {l : List α} {i : Nat} (h : i < (pieces n l).length) : i * n < l.length := by
 rw [pieces_len] at h
 have h1 := (Nat.le_div_iff_mul_le hn).1 (show i + 1 ≤ (l.length + n - 1) / n from h)
 rw [kCg] at h1; omega
theorem pieces_mem {α : Type} {n : Nat} (hn : 0 < n) {l p : List α} (h : p ∈ pieces n l) : p ≠ [] ∧ p.length ≤ n ∧ ∃ a b, l = a ++ (p ++ b) := by
 obtain ⟨i, hi, rfl⟩ := kCy.1 h
 have h1 := pieces_lt hn hi
 rw [pieces_get hi]
 refine ⟨?_, by simp; omega, l.take (i * n), (l.drop (i * n)).drop n, ?_⟩
 ·intro e
  have := congrArg List.length e
  simp at this; omega
 ·rw [kAu, kAu]
def hashB (k : Bytes) : Nat := k.foldl (fun h c => ((h ^^^ c.toNat) * 1099511628211) % 18446744073709551616) 14695981039346656037
theorem hashB_lt (k : Bytes) : hashB k < 18446744073709551616 := by
 unfold hashB
 rcases kDg k with rfl | ⟨l, c, rfl⟩
 ·show 14695981039346656037 < 18446744073709551616
  omega
 ·rw [List.concat_eq_append, kCn, kCd, List.foldl_nil]
  exact kBn _ (by omega)
def probeB (k : Bytes) (m i : Nat) : Nat := (hashB k % 4294967296 + i * (hashB k / 4294967296 ||| 1)) % m
def probesB (k : Bytes) (m : Nat) : List Nat := (List.range 4).map (probeB k m)
def setB (bits : List Nat) (p : Nat) : List Nat := bits.set (p / 8) (bits.getD (p / 8) 0 ||| 2 ^ (p % 8))
def bitB (bits : List Nat) (p : Nat) : Bool := (bits.getD (p / 8) 0).testBit (p % 8)
theorem setB_len (bits : List Nat) (p : Nat) : (setB bits p).length = bits.length := by simp [setB]
def setsB (bits : List Nat) (k : Bytes) : List Nat := (probesB k (8 * bits.length)).foldl setB bits
theorem foldS_len : ∀ (ps : List Nat) (bits : List Nat), (ps.foldl setB bits).length = bits.length
 |[], _ => rfl
 |p :: ps, bits => by rw [kCd, foldS_len ps, setB_len]
theorem setsB_len (bits : List Nat) (k : Bytes) : (setsB bits k).length = bits.length := foldS_len _ _
theorem setB_keep {bits : List Nat} {p q : Nat} (h : bitB bits q = true) : bitB (setB bits p) q = true := by
 unfold bitB setB at *
 rw [kCe, List.getElem?_set] at *
 split
 ·rename_i hpq
  split
  ·simp only [kBu, Nat.testBit_or, Bool.or_eq_true]
   left; rw [hpq]; rw [kCe]; exact h
  ·rename_i hl
   rw [List.getElem?_eq_none (by omega)] at h
   simp at h
 ·exact h
theorem setB_self {bits : List Nat} {p : Nat} (h : p / 8 < bits.length) : bitB (setB bits p) p = true := by
 unfold bitB setB
 rw [kCe, List.getElem?_set_self h]
 simp only [kBu, Nat.testBit_or, Bool.or_eq_true]
 right; simp [Nat.testBit_two_pow_self]
theorem foldS_keep : ∀ (ps : List Nat) {bits : List Nat} {q : Nat}, bitB bits q = true → bitB (ps.foldl setB bits) q = true
 |[], _, _, h => h
 |_ :: ps, _, _, h => foldS_keep ps (setB_keep h)
theorem foldS_self : ∀ (ps : List Nat) {bits : List Nat} {q : Nat}, q ∈ ps → q / 8 < bits.length → bitB (ps.foldl setB bits) q = true
 |p :: ps, bits, q, h, hq => by
  rw [kCd]
  rcases kAf.1 h with rfl | h
  ·exact foldS_keep ps (setB_self hq)
  ·exact foldS_self ps h (by rw [setB_len]; exact hq)
def bloomN (keys : List Bytes) : List Nat := keys.foldl setsB (List.replicate ((10 * keys.length + 7) / 8) 0)
def bloomB (keys : List Bytes) : Bytes := match keys with | [] => [] | _ => (bloomN keys).map UInt8.ofNat
def mayB (f k : Bytes) : Bool := !decide (f = []) && (probesB k (8 * f.length)).all fun p => bitB (f.map UInt8.toNat) p
theorem foldK_len : ∀ (ks : List Bytes) (bits : List Nat), (ks.foldl setsB bits).length = bits.length
 |[], _ => rfl
 |k :: ks, bits => by rw [kCd, foldK_len ks, setsB_len]
theorem foldK_keep : ∀ (ks : List Bytes) {bits : List Nat} {q : Nat}, bitB bits q = true → bitB (ks.foldl setsB bits) q = true
 |[], _, _, h => h
 |_ :: ks, _, _, h => foldK_keep ks (foldS_keep _ h)
theorem foldK_self : ∀ (ks : List Bytes) {bits : List Nat} {k : Bytes}, k ∈ ks → 0 < bits.length → ∀ q ∈ probesB k (8 * bits.length), bitB (ks.foldl setsB bits) q = true
 |k' :: ks, bits, k, h, h0, q, hq => by
  rw [kCd]
  rcases kAf.1 h with rfl | h
  ·refine foldK_keep ks (foldS_self _ hq ?_)
   obtain ⟨i, _, rfl⟩ := kAm.1 hq
   have := kBn (hashB k % 4294967296 + i * (hashB k / 4294967296 ||| 1)) (show 0 < 8 * bits.length by omega)
   unfold probeB
   omega
  ·exact foldK_self ks h (by rw [setsB_len]; exact h0) q (by rw [setsB_len]; exact hq)
theorem setB_lt {bits : List Nat} (h : ∀ x ∈ bits, x < 256) (p : Nat) : ∀ x ∈ setB bits p, x < 256 := by
 intro x hx
 rcases List.mem_or_eq_of_mem_set hx with hx | rfl
 ·exact h x hx
 ·have h1 : bits.getD (p / 8) 0 < 2 ^ 8 := by
   rw [kCe]
   cases hg : bits[p / 8]? with
   |none => simp
   |some y => exact h y (List.mem_of_getElem? hg)
  have h2 : 2 ^ (p % 8) < 2 ^ 8 := Nat.pow_lt_pow_right (by omega) (kBn _ (by omega))
  exact Nat.or_lt_two_pow h1 h2
theorem foldS_lt : ∀ (ps : List Nat) {bits : List Nat}, (∀ x ∈ bits, x < 256) → ∀ x ∈ ps.foldl setB bits, x < 256
 |[], _, h => h
 |p :: ps, _, h => foldS_lt ps (setB_lt h p)
theorem foldK_lt : ∀ (ks : List Bytes) {bits : List Nat}, (∀ x ∈ bits, x < 256) → ∀ x ∈ ks.foldl setsB bits, x < 256
 |[], _, h => h
 |_ :: ks, _, h => foldK_lt ks (foldS_lt _ h)
theorem bloomN_lt (keys : List Bytes) : ∀ x ∈ bloomN keys, x < 256 := foldK_lt _ (by intro x hx; rw [(List.mem_replicate.1 hx).2]; decide)
theorem bloomN_len (keys : List Bytes) : (bloomN keys).length = (10 * keys.length + 7) / 8 := by unfold bloomN; rw [foldK_len]; simp
theorem may_of {keys : List Bytes} {k : Bytes} (h : k ∈ keys) : mayB (bloomB keys) k = true := by
 have e : bloomB keys = (bloomN keys).map UInt8.ofNat := by cases keys with | nil => cases h | cons => rfl
 have h1 : 0 < keys.length := List.length_pos_of_mem h
 have hl := bloomN_len keys
 have h0 : 0 < (bloomN keys).length := by omega
 unfold mayB
 rw [e, Bool.and_eq_true]
 refine ⟨?_, kBd.2 fun q hq => ?_⟩
 ·rw [Bool.not_eq_eq_eq_not, Bool.not_true, decide_eq_false_iff_not]
  intro e2
  have := congrArg List.length e2
  simp at this; rw [this] at h0; simp at h0
 ·have e3 : ((bloomN keys).map UInt8.ofNat).map UInt8.toNat = bloomN keys := by
   rw [kBz]
   have : ∀ x ∈ bloomN keys, (UInt8.toNat ∘ UInt8.ofNat) x = x := fun x hx => by
    have := bloomN_lt keys x hx
    simp; omega
   rw [List.map_congr_left this, List.map_id']
  rw [e3]
  rw [kAv] at hq
  unfold bloomN at hq ⊢
  rw [foldK_len] at hq
  exact foldK_self keys h (by simp; omega) q hq
def namesF (out : List Bytes) (x : EntM) : List Bytes := if out.getLast? = some x.k then out else out ++ [x.k]
def namesE (l : List EntM) : List Bytes := l.foldl namesF []
theorem namesF_keep {out : List Bytes} {x : EntM} {k : Bytes} (h : k ∈ out) : k ∈ namesF out x := by
 unfold namesF; split
 ·exact h
 ·exact kBm _ h
theorem namesF_self (out : List Bytes) (x : EntM) : x.k ∈ namesF out x := by
 unfold namesF; split
 ·rename_i h; exact kDl h
 ·simp
theorem foldN_keep : ∀ (l : List EntM) {out : List Bytes} {k : Bytes}, k ∈ out → k ∈ l.foldl namesF out
 |[], _, _, h => h
 |_ :: l, _, _, h => foldN_keep l (namesF_keep h)
theorem foldN_self : ∀ (l : List EntM) {out : List Bytes} {x : EntM}, x ∈ l → x.k ∈ l.foldl namesF out
 |y :: l, out, x, h => by
  rw [kCd]
  rcases kAf.1 h with rfl | h
  ·exact foldN_keep l (namesF_self _ _)
  ·exact foldN_self l h
theorem namesE_mem {l : List EntM} {x : EntM} (h : x ∈ l) : x.k ∈ namesE l := foldN_self l h
theorem namesE_snoc (l : List EntM) (x : EntM) : namesE (l ++ [x]) = namesF (namesE l) x := by simp [namesE]
theorem namesF_len (out : List Bytes) (x : EntM) : (namesF out x).length ≤ out.length + 1 := by unfold namesF; split <;> simp
theorem namesE_len (l : List EntM) : (namesE l).length ≤ l.length := by
 have : ∀ (l : List EntM) (out : List Bytes), (l.foldl namesF out).length ≤ out.length + l.length := by
  intro l
  induction l with
  |nil => intro out; simp
  |cons x l ih => intro out; rw [kCd]; have := ih (namesF out x); have := namesF_len out x; simp only [kAe]; omega
 have := this l []
 simpa [namesE] using this
theorem namesE_sz (l : List EntM) : ∀ k ∈ namesE l, ∃ x ∈ l, x.k = k := by
 have : ∀ (l : List EntM) (out : List Bytes), ∀ k ∈ l.foldl namesF out, k ∈ out ∨ ∃ x ∈ l, x.k = k := by
  intro l
  induction l with
  |nil => intro out k h; exact .inl h
  |cons x l ih =>
   intro out k h
   rw [kCd] at h
   rcases ih _ k h with h | ⟨y, hy, h⟩
   ·unfold namesF at h
    split at h
    ·exact .inl h
    ·rcases kAl.1 h with h | h
     ·exact .inl h
     ·simp at h; exact .inr ⟨x, kAt, h.symm⟩
   ·exact .inr ⟨y, kAs _ hy, h⟩
 intro k h
 rcases this l [] k h with h | h
 ·cases h
 ·exact h
def idxF (s : Bytes × Nat) (c : List EntM) : Bytes × Nat := (s.1 ++ (textB (lastK [] c) ++ numB s.2), s.2 + 8 + (blockB c).length)
def idxP (cs : List (List EntM)) (n : Nat) : Bytes × Nat := cs.foldl idxF (numB n, 0)
theorem idxP_snoc (cs : List (List EntM)) (c : List EntM) (n : Nat) : idxP (cs ++ [c]) n = idxF (idxP cs n) c := by simp [idxP]
def idxE (l : List EntM) : Bytes × Nat := idxP (pieces 8 l) (pieces 8 l).length
def magicB : Bytes := [84, 82, 77, 49]
def tableP (l : List EntM) : List Bytes := (pieces 8 l).map blockB ++ [(idxE l).1, bloomB (namesE l), magicB ++ (numB (idxE l).2 ++ numB l.length)]
/-! ## Lengths -/
theorem numB_len' {n : Nat} (h : n < 18446744073709551616) : (numB n).length ≤ 10 := numB_len 9 n (Nat.lt_of_lt_of_le h (by decide))
theorem zig_lt {z : Int} (h : -9223372036854775808 ≤ z ∧ z ≤ 9223372036854775807) : zig z < 18446744073709551616 := by unfold zig; split <;> omega
theorem entB_len (last : Bytes) (x : EntM) (hs : -9223372036854775808 ≤ x.s ∧ x.s ≤ 9223372036854775807) (hz : szE x < 1099511627776) : (entB last x).length ≤ szE x + 50 := by
 have h1 := shareN_le last x.k
 have hz' := hz
 unfold szE at hz' ⊢
 have h2 := numB_len' (n := shareN last x.k) (by omega)
 have h3 := numB_len' (n := (x.k.drop (shareN last x.k)).length) (by rw [kBf]; omega)
 have h4 := numB_len' (zig_lt hs)
 have h5 := numB_len' (n := x.v.length) (by omega)
 have h6 := numB_len' (n := 0) (by omega)
 have h7 := numB_len' (n := 1) (by omega)
 unfold entB textB intB
 split
 ·simp only [kAa, kBf] at h3 ⊢; omega
 ·simp only [kAa, kBf] at h3 ⊢; omega
theorem szsE_cons (x : EntM) (l : List EntM) : szsE (x :: l) = szE x + szsE l := by simp [szsE]
theorem entsB_len : ∀ (l : List EntM) (last : Bytes), SeqsE l → szsE l < 1099511627776 → (entsB last l).length ≤ szsE l + 50 * l.length
 |[], _, _, _ => by simp [entsB]
 |x :: l, last, hs, hz => by
  rw [szsE_cons] at hz ⊢
  have h1 := entB_len last x (hs x kAt) (by omega)
  have h2 := entsB_len l x.k (fun y hy => hs y (kAs _ hy)) (by omega)
  simp only [entsB, kAa, kAe]; omega
theorem blockB_len {l : List EntM} (hs : SeqsE l) (hz : szsE l < 1099511627776) (hl : l.length < 1099511627776) : (blockB l).length ≤ szsE l + 50 * l.length + 10 := by
 have h1 := entsB_len l [] hs hz
 have h2 := numB_len' (n := l.length) (by omega)
 unfold blockB
 simp only [kAa]; omega
theorem lastK_len (c : List EntM) : (lastK [] c).length ≤ szsE c := by
 unfold lastK
 split
 ·simp
 ·rename_i x h
  have := szsE_mem (kDl h)
  unfold szE at this; omega
theorem idxP_len : ∀ (cs : List (List EntM)) (n : Nat), n < 1099511627776 → SeqsE cs.flatten → szsE cs.flatten + 60 * cs.flatten.length + 60 * cs.length < 1099511627776 →
  (idxP cs n).1.length ≤ 10 + 20 * cs.length + szsE cs.flatten ∧ (idxP cs n).2 ≤ szsE cs.flatten + 50 * cs.flatten.length + 18 * cs.length := by
 intro cs n hn
 have key : ∀ (r : Nat) (cs : List (List EntM)), cs.length = r → SeqsE cs.flatten → szsE cs.flatten + 60 * cs.flatten.length + 60 * cs.length < 1099511627776 →
  (idxP cs n).1.length ≤ 10 + 20 * cs.length + szsE cs.flatten ∧ (idxP cs n).2 ≤ szsE cs.flatten + 50 * cs.flatten.length + 18 * cs.length := by
  intro r
  induction r with
  |zero =>
   intro cs h0 _ _
   have := kCu h0
   subst this
   have := numB_len' (n := n) (by omega)
   simp [idxP]; omega
  |succ r ih =>
   intro cs hr hs hz
   rcases kDg cs with rfl | ⟨ds, c, rfl⟩
   ·simp at hr
   ·rw [List.concat_eq_append] at *
    rw [kBy, List.flatten_singleton] at hs hz ⊢
    rw [szsE_app, kAa, kAa, kBv] at hz
    have h1 := ih ds (by simpa using hr) (fun x hx => hs x (kBm _ hx)) (by omega)
    have h2 := blockB_len (l := c) (fun x hx => hs x (kBp _ hx)) (by omega) (by omega)
    have h3 := lastK_len c
    have h4 := numB_len' (n := (lastK [] c).length) (by omega)
    have h5 := numB_len' (n := (idxP ds n).2) (by omega)
    rw [idxP_snoc, szsE_app, kAa, kAa, kBv]
    unfold idxF textB
    simp only [kAa]
    omega
 exact key cs.length cs rfl
theorem tableP_fit {l : List EntM} (hl : l.length ≤ 64) (hs : SeqsE l) (hz : ∀ x ∈ l, szE x ≤ 4096) : ∀ p ∈ tableP l, p.length ≤ 65536 := by
 have hsum : ∀ m : List EntM, (∀ x ∈ m, szE x ≤ 4096) → szsE m ≤ 4096 * m.length := by
  intro m
  induction m with
  |nil => intro _; simp [szsE]
  |cons x m ih => intro h; rw [szsE_cons, kAe]; have := h x kAt; have := ih fun y hy => h y (kAs _ hy); omega
 have hfl := pieces_flat (show 0 < 8 by omega) l
 have hpl := pieces_len 8 l
 have hszl := hsum l hz
 have hi := idxP_len (pieces 8 l) (pieces 8 l).length (by omega) (by rw [hfl]; exact hs) (by rw [hfl]; omega)
 rw [hfl] at hi
 have hsl : (idxP (pieces 8 l) (pieces 8 l).length).1.length ≤ 65536 := by
  -- the last keys of eight pieces
  have : ∀ (cs : List (List EntM)) (n : Nat), n < 1099511627776 → (∀ c ∈ cs, ∀ x ∈ c, szE x ≤ 4096) → (∀ d, d <+: cs → (idxP d n).2 < 18446744073709551616) → (idxP cs n).1.length ≤ 10 + 4116 * cs.length := by
   intro cs n hn
   have key : ∀ (r : Nat) (cs : List (List EntM)), cs.length = r → (∀ c ∈ cs, ∀ x ∈ c, szE x ≤ 4096) → (∀ d, d <+: cs → (idxP d n).2 < 18446744073709551616) → (idxP cs n).1.length ≤ 10 + 4116 * cs.length := by
    intro r
    induction r with
    |zero =>
     intro cs h0 _ _
     have := kCu h0
     subst this
     have := numB_len' (n := n) (by omega)
     simpa [idxP] using this
    |succ r ih =>
     intro cs hr hs hd
     rcases kDg cs with rfl | ⟨ds, c, rfl⟩
     ·simp at hr
     ·rw [List.concat_eq_append] at *
      have h1 := ih ds (by simpa using hr) (fun c hc => hs c (kBm _ hc)) (fun d h => hd d (h.trans (List.prefix_append _ _)))
      have h2 := hd ds (List.prefix_append _ _)
      have h3 : (lastK [] c).length ≤ 4096 := by
       unfold lastK
       split
       ·simp
       ·rename_i x h
        have := hs c (by simp) x (kDl h)
        unfold szE at this; omega
      have h4 := numB_len' (n := (lastK [] c).length) (by omega)
      have h5 := numB_len' h2
      rw [idxP_snoc, kAa, kBv]
      unfold idxF textB
      simp only [kAa]
      omega
   exact key cs.length cs rfl
  have h8 := this (pieces 8 l) (pieces 8 l).length (by omega) (fun c hc x hx => hz x (by
   obtain ⟨_, _, a, b, e⟩ := pieces_mem (show 0 < 8 by omega) hc
   rw [e]; simp [hx])) (fun d hd => by
    obtain ⟨e, he⟩ := hd
    have hdl : d.flatten.length ≤ l.length ∧ szsE d.flatten ≤ szsE l ∧ d.length ≤ (pieces 8 l).length := by
     have h1 : l = d.flatten ++ e.flatten := by rw [← kBy, he, hfl]
     have h2 := congrArg List.length h1
     have h3 := congrArg szsE h1
     rw [szsE_app] at h3
     rw [kAa] at h2
     have h4 := congrArg List.length he
     rw [kAa] at h4
     omega
    have := (idxP_len d (pieces 8 l).length (by omega) (fun x hx => hs x (by
     rw [← hfl, ← he, kBy]; exact kBm _ hx)) (by omega)).2
    omega)
  omega
 intro p hp
 unfold tableP at hp
 rcases kAl.1 hp with hp | hp
 ·obtain ⟨c, hc, rfl⟩ := kAm.1 hp
  obtain ⟨_, h2, a, b, e⟩ := pieces_mem (show 0 < 8 by omega) hc
  have hcz : ∀ x ∈ c, szE x ≤ 4096 := fun x hx => hz x (by rw [e]; simp [hx])
  have h3 := hsum c hcz
  have h4 := blockB_len (l := c) (fun x hx => hs x (by rw [e]; simp [hx])) (by omega) (by omega)
  omega
 ·simp only [kAf, List.not_mem_nil, or_false] at hp
  rcases hp with rfl | rfl | rfl
  ·exact hsl
  ·cases hk : namesE l with
   |nil => simp [bloomB]
   |cons k ks =>
    have h1 := namesE_len l
    have e : bloomB (k :: ks) = (bloomN (k :: ks)).map UInt8.ofNat := rfl
    rw [e, kAv, bloomN_len, ← hk]
    omega
  ·have h1 := hi.2
   have h2 := numB_len' (n := (idxE l).2) (by unfold idxE; omega)
   have h3 := numB_len' (n := l.length) (by omega)
   simp only [kAa]
   show 4 + _ ≤ _
   omega
/-! ### A frame is read back -/
theorem num4_app (n : Nat) (l : List UInt8) (hn : n < 4294967296) : num4 (be4 n ++ l) = n := by
 have : num4 (be4 n ++ l) = num4 (be4 n) := rfl
 rw [this, num4_be4 n hn]
theorem firstM_frame (pre p rest : Bytes) (hp : p.length ≤ 65536) : firstM (pre ++ (frameB p ++ rest)) pre.length = (p, pre.length + (8 + p.length), 0) := by
 have hd : (pre ++ (frameB p ++ rest)).drop pre.length = be4 p.length ++ (be4 (crcN [be4 p.length, p]) ++ (p ++ rest)) := by
  rw [List.drop_left]; simp [frameB]
 have hc := (crcN_eq [be4 p.length, p]).2
 unfold firstM
 rw [hd, num4_app _ _ (by omega)]
 have h4 : (be4 p.length ++ (be4 (crcN [be4 p.length, p]) ++ (p ++ rest))).take 4 = be4 p.length := rfl
 have h5 : (be4 p.length ++ (be4 (crcN [be4 p.length, p]) ++ (p ++ rest))).drop 4 = be4 (crcN [be4 p.length, p]) ++ (p ++ rest) := rfl
 have h6 : ((be4 p.length ++ (be4 (crcN [be4 p.length, p]) ++ (p ++ rest))).take (8 + p.length)).drop 8 = p := by
  rw [List.drop_take]
  have : (be4 p.length ++ (be4 (crcN [be4 p.length, p]) ++ (p ++ rest))).drop 8 = p ++ rest := rfl
  rw [this, show 8 + p.length - 8 = p.length by omega, List.take_left]
 rw [h4, h5, h6, num4_app _ _ hc, if_neg, if_neg, if_pos rfl]
 ·simp; omega
 ·simp [be4]; omega
 ·simp [frameB, be4]
theorem firstM_end (t : Bytes) (k : Nat) (h : t.length < k + 8) : firstM t k = ([], 0, 1) := by
 unfold firstM; rw [if_pos h]
theorem scanM_frames (tail : Bytes) (k : Nat) : ∀ (ps : List Bytes) (pre : Bytes) (fuel : Nat), okLens ps = true → ps.length < fuel → (firstM (pre ++ (sealB ps ++ tail)) (pre.length + (sealB ps).length)).2.2 ≠ 0 →
  scanM (pre ++ (sealB ps ++ tail)) fuel pre.length = (ps, pre.length + (sealB ps).length)
 |[], pre, fuel + 1, _, _, h => by
  simp only [scanM]
  have : (firstM (pre ++ (sealB [] ++ tail)) pre.length).2.2 ≠ 0 := h
  rw [if_pos this]; rfl
 |p :: ps, pre, fuel + 1, hok, hf, h => by
  simp only [okLens, List.all_cons, Bool.and_eq_true, decide_eq_true_eq] at hok
  have e1 : pre ++ (sealB (p :: ps) ++ tail) = pre ++ (frameB p ++ (sealB ps ++ tail)) := by simp [sealB]
  have e2 : (sealB (p :: ps)).length = 8 + p.length + (sealB ps).length := by simp [sealB, frameB_len]; omega
  have e3 : pre ++ (sealB (p :: ps) ++ tail) = (pre ++ frameB p) ++ (sealB ps ++ tail) := by rw [e1]; simp
  have e4 : (pre ++ frameB p).length = pre.length + (8 + p.length) := by simp [frameB_len]; omega
  simp only [scanM]
  rw [e2, e3] at h
  have ih := scanM_frames tail k ps (pre ++ frameB p) fuel (by simpa [okLens] using hok.2) (by simp at hf; omega) (by rw [e4, show pre.length + (8 + p.length) + (sealB ps).length = pre.length + (8 + p.length + (sealB ps).length) by omega]; exact h)
  have e5 : firstM (pre ++ (sealB (p :: ps) ++ tail)) pre.length = (p, pre.length + (8 + p.length), 0) := by rw [e1]; exact firstM_frame _ _ _ hok.1
  rw [e5]
  simp only [ne_eq, not_true_eq_false, if_false]
  rw [e3, ← e4, ih, e4, e2]
  simp; omega
theorem scan_seal (ps : List Bytes) (h : okLens ps = true) : scan (sealB ps) = (ps, (sealB ps).length) := by
 have h0 : (firstM ([] ++ (sealB ps ++ [])) (([] : Bytes).length + (sealB ps).length)).2.2 ≠ 0 := by
  rw [firstM_end _ _ (by simp)]; simp
 have h1 := scanM_frames [] 0 ps [] ((sealB ps).length + 1) h (by have := sealB_len ps; omega) h0
 simpa [scan] using h1
theorem run_cmpstring (a b : Bytes) (w : World) : (callFunc f_internal_bytealg_abigen_runtime_cmpstring ⟨[Str a, Str b]⟩).run Tryz.prog w = .ok (.value (.int .i64 (Lib.compareBytes a b))) w := by
 rw [run_callFunc_extern func_internal_bytealg_abigen_runtime_cmpstring (by kernel_rfl) (by kernel_rfl) (by kernel_rfl) (e := Extern.BytealgCompare.compare) (by kernel_rfl)]
 have := Lib.run_compareString (P := Tryz.prog) ⟨⟨a⟩⟩ ⟨⟨b⟩⟩ w
 rw [show (Array.mk [Str a, Str b]) = #[Str a, Str b] from rfl]
 rw [this]
 rfl
theorem Compare_spec {w : World} (a b : Bytes) : Cl Tryz.prog f_strings_Compare [Str a, Str b] w fun v w' => v = .int .i64 (Lib.compareBytes a b) ∧ St w [] [] w' := by
 have hS := St.start w
 refine en_strings_Compare rfl ?_
 refine jq ⟨?_⟩
 refine Cl.mono (P := Tryz.prog) (R := fun v w' => v = .int .i64 (Lib.compareBytes a b) ∧ St w [] [] w') ?_ ?_
 ·refine en_internal_bytealg_CompareString rfl ?_
  refine jq ⟨?_⟩
  refine Cl.val (run_cmpstring a b w) ?_
  refine jq ⟨?_⟩
  exact ⟨rfl, hS⟩
 ·rintro _ w3 ⟨rfl, hS⟩
  refine jq ⟨?_⟩
  exact ⟨rfl, hS⟩
def entV (e : EntM) : Value := .agg ⟨entC e⟩
theorem ecmp_or (x y : EntM) : (if Lib.compareBytes x.k y.k = 0 then cmpI y.s x.s else Lib.compareBytes x.k y.k) = ecmp x y := by
 unfold ecmp cmpI
 by_cases h : Lib.compareBytes x.k y.k = 0
 ·simp [h]
 ·simp [h]
set_option maxHeartbeats 2000000 in
theorem mem_compare_spec (x y : EntM) (w : World) : Cl Tryz.prog f_mem_compare [entV x, entV y] w fun v w' => v = .int .i64 (ecmp x y) ∧ St w [] [] w' := by
 have hS := St.start w
 unfold entV entC
 refine en_mem_compare rfl ?_
 refine jq ⟨?_⟩
 refine hS.al ?_
 intro b2 w2 _ hS
 refine jq ⟨?_⟩
 refine hS.al ?_
 intro b3 w3 _ hS
 refine jq ⟨?_⟩
 refine SemW.draw tblOk mixed (fun w' => St w [] [(b3, .cells ⟨[Str y.k, .int .i64 y.s, .bool y.d, Str y.v]⟩ T_api_Entry (0, 0)), (b2, .cells ⟨[Str x.k, .int .i64 x.s, .bool x.d, Str x.v]⟩ T_api_Entry (0, 0))] w') [11, 12] [0, 1, 2, 3, 5, 6, 7, 8, 4, 9, 10, 11, 12] (by kernel_rfl) hS.drew ?_
 have hS := hS.drew
 generalize w3.drew = w4 at hS
 refine jr ⟨?_⟩
 refine (Compare_spec x.k y.k).mono ?_
 rintro _ w5 ⟨rfl, hS'⟩
 have hS := hS.call0 hS'
 refine Chk.mk hS ?_
 refine jr ⟨?_⟩
 refine cmpI_spec.mono ?_
 rintro _ _ ⟨rfl, rfl⟩
 refine Chk.mk hS ?_
 refine jr ⟨?_⟩
 refine hS.al ?_
 intro g w6 _ hS
 refine Chk.mk (hS.sub (kAb _ _)) ?_
 refine jr ⟨?_⟩
 refine (orI_spec (hS.part (L := [(g, .cells ⟨[.int .i64 (Lib.compareBytes x.k y.k), .int .i64 (cmpI y.s x.s)]⟩ T_int (0, 0))]))).mono ?_
 rintro _ w7 ⟨rfl, hS'⟩
 have hS := hS.call (L := [(g, .cells ⟨[.int .i64 (Lib.compareBytes x.k y.k), .int .i64 (cmpI y.s x.s)]⟩ T_int (0, 0))]) hS'
 refine jr ⟨?_⟩
 rw [ecmp_or]
 refine jq ⟨?_⟩
 exact ⟨rfl, hS.nil⟩
set_option maxHeartbeats 2000000 in
theorem merge_compare_spec (x y : EntM) (w : World) : Cl Tryz.prog f_merge_compare [entV x, entV y] w fun v w' => v = .int .i64 (ecmp x y) ∧ St w [] [] w' := by
 have hS := St.start w
 unfold entV entC
 refine en_merge_compare rfl ?_
 refine jq ⟨?_⟩
 refine hS.al ?_
 intro b2 w2 _ hS
 refine jq ⟨?_⟩
 refine hS.al ?_
 intro b3 w3 _ hS
 refine jq ⟨?_⟩
 refine SemW.draw tblOk mixed (fun w' => St w [] [(b3, .cells ⟨[Str y.k, .int .i64 y.s, .bool y.d, Str y.v]⟩ T_api_Entry (0, 0)), (b2, .cells ⟨[Str x.k, .int .i64 x.s, .bool x.d, Str x.v]⟩ T_api_Entry (0, 0))] w') [11, 12] [0, 1, 2, 3, 5, 6, 7, 8, 4, 9, 10, 11, 12] (by kernel_rfl) hS.drew ?_
 have hS := hS.drew
 generalize w3.drew = w4 at hS
 refine jr ⟨?_⟩
 refine (Compare_spec x.k y.k).mono ?_
 rintro _ w5 ⟨rfl, hS'⟩
 have hS := hS.call0 hS'
 refine Chk.mk hS ?_
 refine jr ⟨?_⟩
 refine cmpI_spec.mono ?_
 rintro _ _ ⟨rfl, rfl⟩
 refine Chk.mk hS ?_
 refine jr ⟨?_⟩
 refine hS.al ?_
 intro g w6 _ hS
 refine Chk.mk (hS.sub (kAb _ _)) ?_
 refine jr ⟨?_⟩
 refine (orI_spec (hS.part (L := [(g, .cells ⟨[.int .i64 (Lib.compareBytes x.k y.k), .int .i64 (cmpI y.s x.s)]⟩ T_int (0, 0))]))).mono ?_
 rintro _ w7 ⟨rfl, hS'⟩
 have hS := hS.call (L := [(g, .cells ⟨[.int .i64 (Lib.compareBytes x.k y.k), .int .i64 (cmpI y.s x.s)]⟩ T_int (0, 0))]) hS'
 refine jr ⟨?_⟩
 rw [ecmp_or]
 refine jq ⟨?_⟩
 exact ⟨rfl, hS.nil⟩
set_option maxHeartbeats 2000000 in
theorem Shared_spec (a b : Bytes) (ha : a.length ≤ 1099511627776) (hb : b.length ≤ 1099511627776) (w : World) : Cl Tryz.prog f_block_Shared [Str a, Str b] w fun v w' => v = .int .i64 (shareN a b) ∧ St w [] [] w' := by
 have hS := St.start w
 have hmin : (if (b.length : Int) < (a.length : Int) then (b.length : Int) else (a.length : Int)) = ((min a.length b.length : Nat) : Int) := by
  split <;> omega
 have hm1 : min a.length b.length ≤ a.length := Nat.min_le_left _ _
 have hm2 : min a.length b.length ≤ b.length := Nat.min_le_right _ _
 have hm3 : min a.length b.length = a.length ∨ min a.length b.length = b.length := by omega
 refine en_block_Shared rfl ?_
 refine jq ⟨?_⟩
 rw [hmin]
 generalize hmm : min a.length b.length = m at hm1 hm2 hm3 hmin
 refine SemW.loop (fun i : Nat => [(0, Str a), (1, Str b), (10, .int .i64 m), (11, .int .i64 i)])
  (fun i w' => (i ≤ m ∧ ∀ j (h1 : j < a.length) (h2 : j < b.length), j < i → a[j] = b[j]) ∧ St w [] [] w') (fun i => m - i) 0
  ⟨rfl, rfl, rfl, rfl, trivial⟩ ⟨⟨kAg _, fun j _ _ h => by omega⟩, hS⟩ ?_
 clear hS
 rintro i w1 ⟨⟨hi, hall⟩, hS⟩
 by_cases him : i < m
 ·have hA : a.getD ((i : Int)).toNat 0 = a[i] := by rw [kCe, show ((i : Int)).toNat = i by omega, kAp (by omega)]; rfl
  have hB : b.getD ((i : Int)).toNat 0 = b[i] := by rw [kCe, show ((i : Int)).toNat = i by omega, kAp (by omega)]; rfl
  refine jq ⟨?_⟩
  refine SemW.draw tblOk mixed (fun w' => St w _ _ w') [] [0, 1, 2, 3, 4, 5, 6] (by kernel_rfl) hS.drew ?_
  have hS := hS.drew
  by_cases he : a[i] = b[i]
  ·refine jr ⟨?_⟩
   rw [hA, hB, he]
   refine jq ⟨?_⟩
   refine ⟨i + 1, ⟨rfl, rfl, rfl, rfl, trivial⟩, ⟨⟨him, fun j h1 h2 h3 => ?_⟩, hS⟩, by omega⟩
   by_cases e : j = i
   ·subst e; exact he
   ·exact hall j h1 h2 (by omega)
  ·have hne : ¬ ((a[i].toNat : Nat) : Int) = ((b[i].toNat : Nat) : Int) := fun h => he (UInt8.toNat_inj.1 (by omega))
   have hsh := shareN_eq a b i (by omega) (by omega) (fun j h1 h2 h3 => hall j h1 h2 h3) (fun _ _ => he)
   refine jr ⟨?_⟩
   rw [hA, hB]
   refine jq ⟨?_⟩
   exact ⟨by rw [hsh], hS⟩
 ·obtain rfl : i = m := by omega
  have hsh := shareN_eq a b i (by omega) (by omega) (fun j h1 h2 h3 => hall j h1 h2 h3) (fun h1 h2 => by omega)
  refine jq ⟨?_⟩
  rw [hmin]
  exact ⟨by rw [hsh], hS⟩
set_option maxHeartbeats 2000000 in
theorem rises_spec (x y : EntM) (w : World) : Cl Tryz.prog f_block_rises [entV x, entV y] w fun v w' => v = .bool (elt x y) ∧ St w [] [] w' := by
 have hS := St.start w
 unfold entV entC elt eltP
 refine en_block_rises rfl ?_
 refine jq ⟨?_⟩
 refine hS.al ?_
 intro b2 w2 _ hS
 refine jq ⟨?_⟩
 refine hS.al ?_
 intro b3 w3 _ hS
 cases hb : Op.bytesLess x.k y.k with
 |true =>
  simp only [Bool.true_or]
  (repeat (refine jt ⟨?_⟩; refine hS.st rfl rfl ?_; intro _ hS)); refine jt ⟨?_⟩
  repeat (refine BrG.eqt hb ?_; (repeat (refine jt ⟨?_⟩; refine hS.st rfl rfl ?_; intro _ hS)); refine jt ⟨?_⟩)
  exact ⟨rfl, hS.nil⟩
 |false =>
  simp only [Bool.false_or]
  by_cases hk : x.k = y.k
  ·by_cases hs : y.s < x.s
   ·(repeat (refine jt ⟨?_⟩; refine hS.st rfl rfl ?_; intro _ hS)); refine jt ⟨?_⟩
    repeat (refine BrG.eqf hb ?_; (repeat (refine jt ⟨?_⟩; refine hS.st rfl rfl ?_; intro _ hS)); refine jt ⟨?_⟩)
    exact ⟨by simp [hk, hs], hS.nil⟩
   ·(repeat (refine jt ⟨?_⟩; refine hS.st rfl rfl ?_; intro _ hS)); refine jt ⟨?_⟩
    repeat (refine BrG.eqf hb ?_; (repeat (refine jt ⟨?_⟩; refine hS.st rfl rfl ?_; intro _ hS)); refine jt ⟨?_⟩)
    exact ⟨by simp [hs], hS.nil⟩
  ·(repeat (refine jt ⟨?_⟩; refine hS.st rfl rfl ?_; intro _ hS)); refine jt ⟨?_⟩
   repeat (refine BrG.eqf hb ?_; (repeat (refine jt ⟨?_⟩; refine hS.st rfl rfl ?_; intro _ hS)); refine jt ⟨?_⟩)
   exact ⟨by simp [hk], hS.nil⟩
def textsB (ss : List Bytes) : Bytes := (ss.map textB).flatten
theorem texts_succ (ss : List Bytes) (k : Nat) (hk : k < ss.length) : textsB (ss.take (k + 1)) = textsB (ss.take k) ++ textB ss[k] := by
 unfold textsB
 rw [kAn hk, kAi, kBy, kAh, kC, kBi, kCc, kAk]
theorem texts_len (ss : List Bytes) (h : sumLen ss ≤ 18446744073709551615) : (textsB ss).length ≤ 10 * ss.length + sumLen ss := by
 induction ss with
 |nil => simp [textsB]
 |cons z r ih =>
  have e : sumLen (z :: r) = z.length + sumLen r := by simp [sumLen]
  have h1 := numB_len10 z.length (by omega)
  have h2 := ih (by omega)
  rw [e]
  simp only [textsB, kAh, kBi, kAa, kAe, textB] at h2 ⊢; omega
set_option maxHeartbeats 1000000 in
theorem Text_spec {w : World} {b : Nat} {bs : Bytes} {L : Heap} (hW : PackW b bs L) (hh : Holds L w) {a : Option Addr} {cap : Nat} {ss : List Bytes} (ha : Arr w (keys L) a (ss.map Str)) (hlen : bs.length + 10 * ss.length + sumLen ss ≤ 140737488355328) :
  Cl Tryz.prog f_pack_Writer_Text [ptr b, .slice a ss.length cap] w fun _ w' => ∃ L', PackW b (bs ++ textsB ss) L' ∧ St w (keys L) L' w' := by
 have hS := St.enter hh
 generalize hT : keys L = T0 at hS ha ⊢
 refine en_pack_Writer_Text rfl ?_
 refine jq ⟨?_⟩
 refine SemW.loop (fun k : Nat => [(0, ptr b), (6, .slice a ss.length cap), (7, .int .i64 ss.length), (8, .int .i64 k)])
  (fun k w' => k ≤ ss.length ∧ ∃ L', PackW b (bs ++ textsB (ss.take k)) L' ∧ St w T0 L' w') (fun k => ss.length - k) 0
  ⟨rfl, rfl, rfl, rfl, trivial⟩ ⟨kAg _, L, by simpa [textsB] using hW, hS⟩ ?_
 rintro k w1 ⟨hk, L1, hW1, hS⟩
 by_cases hkl : k < ss.length
 ·obtain ⟨b', off', rfl, hbT, hck⟩ := ha.get (j := k) (by simp; omega)
  simp only [kCp] at hck
  have hs := texts_succ ss k hkl
  have h1 := sumLen_take ss k hkl
  have h2 := sumLen_take_le ss (k + 1)
  have hln := texts_len (ss.take k) (by omega)
  have hlt : (ss.take k).length = k := by simp; omega
  have h10 := numB_len10 ss[k].length (by omega)
  refine jq ⟨?_⟩
  refine hS.ldOld hbT (by simpa using hck) ?_
  refine jq ⟨?_⟩
  refine hS.al ?_
  intro r w3 _ hS
  refine jq ⟨?_⟩
  refine Cl.mono (Num_spec hW1 (hS.part (L := L1)) (ns := [ss[k].length]) (hS.arr (b := r) (nodup_new hS)) (by simp; omega) (by simp) (by rw [kAa, kBv]; omega)) ?_
  rintro _ w4 ⟨L3, hW3, hS'⟩
  have hS := (hS.call (L := L1) hS').sub (kAb _ _)
  have hW3 : PackW b (bs ++ textsB (ss.take k) ++ numB ss[k].length) L3 := by simpa using hW3
  refine jq ⟨?_⟩
  refine St.toBytes tblOk rfl rfl rfl rfl rfl rfl hS ?_
  intro r2 c2 z fz w5 hc hS
  refine jq ⟨?_⟩
  refine Cl.mono (add_spec hW3 (hS.part (L := L3)) (xs := ss[k]) (Arr.take (hS.arr (b := r2) (nodup_new hS))) (by rw [kAa, kAa]; omega)) ?_
  rintro _ w6 ⟨L4, hW4, hS'⟩
  have hS := (hS.call (L := L3) hS').sub (kAb _ _)
  refine jq ⟨?_⟩
  refine ⟨k + 1, ⟨rfl, rfl, rfl, rfl, trivial⟩, ⟨by omega, L4, ?_, hS⟩, by omega⟩
  rw [hs, textB]
  simpa using hW4
 ·have hke : k = ss.length := by omega
  subst hke
  rw [kAr] at hW1
  refine jq ⟨?_⟩
  exact ⟨L1, hW1, hS⟩
end Go.Proofs.YtkgibdhpijdbfaaGreatDoor
namespace Go.Eng
open Go
theorem nodup_chunk {w0 w : World} {T : List Nat} {b : Nat} {o : Obj} {H L : Heap} {F : Heap → Heap} (hS : St w0 T ((b, o) :: H) w) [hc : Chunk H L F] : b ∉ keys L := by
 obtain ⟨A, B, h1, -⟩ := hc.at_
 have := hS.nd
 rw [h1] at this
 simp only [keys, kAh, kAi, kBq] at this
 intro h
 exact this.1 (kBp _ (kBm _ h))
end Go.Eng
namespace Go.Proofs.YtkgibdhpijdbfaaGreatDoor
open Go Go.Eng Go.Proofs
theorem entB_le (last : Bytes) (x : EntM) (hk : x.k.length ≤ 1099511627776) (hv : x.v.length ≤ 1099511627776) (hl : last.length ≤ 1099511627776) (hs : i64ok x.s) : (entB last x).length ≤ 60 + x.k.length + x.v.length := by
 have h1 := shareN_le last x.k
 have h2 := numB_len10 (shareN last x.k) (by omega)
 have h3 := numB_len10 (x.k.drop (shareN last x.k)).length (by rw [kBf]; omega)
 have h4 := numB_len10 x.v.length (by omega)
 have h5 := numB_len10 0 (by omega)
 have h6 := numB_len10 1 (by omega)
 have h7 := ints_len [x.s] (fun z hz => by simp only [kAy] at hz; subst hz; exact hs)
 have h8 : (intB x.s).length ≤ 10 := by simpa [intsB] using h7
 unfold entB textB
 rw [kBf] at h3
 split <;> simp only [kAa, kBf] <;> omega
set_option maxHeartbeats 8000000 in
theorem entry_spec {w : World} {wb pb : Nat} {bs last : Bytes} {L : Heap} {x : EntM} (hW : PackW pb bs L) (hh : Holds ((wb, .cells ⟨[ptr pb, Str last]⟩ T_block_writer (0, 0)) :: L) w)
  (hk : x.k.length ≤ 1099511627776) (hv : x.v.length ≤ 1099511627776) (hl : last.length ≤ 1099511627776) (hs : i64ok x.s) (hb : bs.length ≤ 70368744177664) :
  Cl Tryz.prog f_block_writer_entry [ptr wb, entV x] w fun _ w' => ∃ L', PackW pb (bs ++ entB last x) L' ∧ St w (wb :: keys L) ((wb, .cells ⟨[ptr pb, Str x.k]⟩ T_block_writer (0, 0)) :: L') w' := by
 have hS := St.enter hh
 have hsh := shareN_le last x.k
 have hn10 := numB_len10 (shareN last x.k) (by omega)
 unfold entB
 generalize hT : keys ((wb, Obj.cells ⟨[ptr pb, Str last]⟩ T_block_writer (0, 0)) :: L) = T0 at hS
 have hT' : wb :: keys L = T0 := hT
 rw [hT']
 unfold entV entC
 refine en_block_writer_entry rfl ?_
 refine jq ⟨?_⟩
 refine hS.al ?_
 intro b3 w1 _ hS
 refine jq ⟨?_⟩
 refine SemW.draw tblOk mixed (fun w' => St w _ _ w') [6, 7] [0, 1, 2, 3, 4, 5, 6, 7] (by kernel_rfl) hS.drew ?_
 have hS := hS.drew
 refine jr ⟨?_⟩
 refine (Shared_spec last x.k hl hk _).mono ?_
 rintro _ w2 ⟨rfl, hS'⟩
 have hS := hS.call0 hS'
 generalize shareN last x.k = n at hsh hn10 ⊢
 refine jr ⟨?_⟩
 (repeat (refine jt ⟨?_⟩; refine hS.st rfl rfl ?_; intro _ hS)); refine jt ⟨?_⟩
 refine hS.al ?_
 intro b5 w3 _ hS
 (repeat (refine jt ⟨?_⟩; refine hS.st rfl rfl ?_; intro _ hS)); refine jt ⟨?_⟩
 refine Cl.mono (Num_spec hW (hS.part (L := L)) (ns := [n]) (hS.arr (b := b5) (nodup_chunk hS)) (by intro m hm; simp only [kAy] at hm; subst hm; omega) (by simp) (by simp; omega)) ?_
 rintro _ w4 ⟨L1, hW, hS'⟩
 have hS := hS.call (L := L) hS'
 have hS := hS.sub (kAb _ _)
 rw [show ([n].map numB).flatten = numB n by simp] at hW
 (repeat (refine jt ⟨?_⟩; refine hS.st rfl rfl ?_; intro _ hS)); refine jt ⟨?_⟩
 refine SemW.draw tblOk mixed (fun w' => St w _ _ w') [9] [0, 1, 2, 3, 4, 5, 6, 7, 8, 9] (by kernel_rfl) hS.drew ?_
 have hS := hS.drew
 refine jr ⟨?_⟩
 rw [show ((n : Int)).toNat = n by omega]
 refine hS.al ?_
 intro b6 w5 _ hS
 refine Chk.mk (hS.sub (kAb _ _)) ?_
 refine jr ⟨?_⟩
 have hdl : (x.k.drop n).length = x.k.length - n := kBf
 refine Cl.mono (Text_spec hW (hS.part (L := L1)) (ss := [x.k.drop n]) (hS.arr (b := b6) (nodup_chunk hS)) (by simp [sumLen]; omega)) ?_
 rintro _ w6 ⟨L2, hW, hS'⟩
 have hS := hS.call (L := L1) hS'
 have hS := hS.sub (kAb _ _)
 rw [show textsB [x.k.drop n] = textB (x.k.drop n) by simp [textsB]] at hW
 refine jr ⟨?_⟩
 (repeat (refine jt ⟨?_⟩; refine hS.st rfl rfl ?_; intro _ hS)); refine jt ⟨?_⟩
 refine SemW.draw tblOk mixed (fun w' => St w _ _ w') [7] [0, 1, 2, 3, 4, 5, 6, 7] (by kernel_rfl) hS.drew ?_
 have hS := hS.drew
 refine jr ⟨?_⟩
 refine hS.al ?_
 intro b7 w7 _ hS
 refine Chk.mk (hS.sub (kAb _ _)) ?_
 refine jr ⟨?_⟩
 have htl : (textB (x.k.drop n)).length ≤ 10 + x.k.length := by
  have := numB_len10 (x.k.length - n) (by omega)
  unfold textB; rw [kAa, hdl]; omega
 refine Cl.mono (Int_spec hW (hS.part (L := L2)) (zs := [x.s]) (hS.arr (b := b7) (nodup_chunk hS)) (fun z hz => by simp only [kAy] at hz; subst hz; exact hs) (by simp) (by simp only [kAa, kAe, kAq]; omega)) ?_
 rintro _ w8 ⟨L3, hW, hS'⟩
 have hS := hS.call (L := L2) hS'
 have hS := hS.sub (kAb _ _)
 have hil := ints_len [x.s] (fun z hz => by simp only [kAy] at hz; subst hz; exact hs)
 simp only [kAe, kAq] at hil
 rw [show intsB [x.s] = intB x.s by simp [intsB]] at hW hil
 refine jr ⟨?_⟩
 cases hd : x.d with
 |true =>
  rw [hd] at hS
  (repeat (refine jt ⟨?_⟩; refine hS.st rfl rfl ?_; intro _ hS)); refine jt ⟨?_⟩
  refine hS.al ?_
  intro b8 w9 _ hS
  (repeat (refine jt ⟨?_⟩; refine hS.st rfl rfl ?_; intro _ hS)); refine jt ⟨?_⟩
  refine Cl.mono (Num_spec hW (hS.part (L := L3)) (ns := [1]) (hS.arr (b := b8) (nodup_chunk hS)) (by intro m hm; simp only [kAy] at hm; subst hm; omega) (by simp) (by simp only [kAa, kAe, kAq]; omega)) ?_
  rintro _ w10 ⟨L4, hW, hS'⟩
  have hS := hS.call (L := L3) hS'
  have hS := hS.sub (kAb _ _)
  rw [show ([1].map numB).flatten = numB 1 by simp] at hW
  (repeat (refine jt ⟨?_⟩; refine hS.st rfl rfl ?_; intro _ hS)); refine jt ⟨?_⟩
  refine ⟨L4, ?_, hS.sub (kAb _ _)⟩
  simpa using hW
 |false =>
  rw [hd] at hS
  (repeat (refine jt ⟨?_⟩; refine hS.st rfl rfl ?_; intro _ hS)); refine jt ⟨?_⟩
  refine hS.al ?_
  intro b8 w9 _ hS
  (repeat (refine jt ⟨?_⟩; refine hS.st rfl rfl ?_; intro _ hS)); refine jt ⟨?_⟩
  refine Cl.mono (Num_spec hW (hS.part (L := L3)) (ns := [0]) (hS.arr (b := b8) (nodup_chunk hS)) (by intro m hm; simp only [kAy] at hm; subst hm; omega) (by simp) (by simp only [kAa, kAe, kAq]; omega)) ?_
  rintro _ w10 ⟨L4, hW, hS'⟩
  have hS := hS.call (L := L3) hS'
  have hS := hS.sub (kAb _ _)
  have hz0 := numB_len10 0 (by omega)
  rw [show ([0].map numB).flatten = numB 0 by simp] at hW
  (repeat (refine jt ⟨?_⟩; refine hS.st rfl rfl ?_; intro _ hS)); refine jt ⟨?_⟩
  refine SemW.draw tblOk mixed (fun w' => St w _ _ w') [7] [0, 1, 2, 3, 4, 5, 6, 7] (by kernel_rfl) hS.drew ?_
  have hS := hS.drew
  refine jr ⟨?_⟩
  refine hS.al ?_
  intro b9 w11 _ hS
  refine Chk.mk (hS.sub (kAb _ _)) ?_
  refine jr ⟨?_⟩
  refine Cl.mono (Text_spec hW (hS.part (L := L4)) (ss := [x.v]) (hS.arr (b := b9) (nodup_chunk hS)) (by simp only [kAa, kAe, kAq, sumLen, kAh, kC, kCj, List.sum_nil]; omega)) ?_
  rintro _ w12 ⟨L5, hW, hS'⟩
  have hS := hS.call (L := L4) hS'
  have hS := hS.sub (kAb _ _)
  rw [show textsB [x.v] = textB x.v by simp [textsB]] at hW
  refine jr ⟨?_⟩
  (repeat (refine jt ⟨?_⟩; refine hS.st rfl rfl ?_; intro _ hS)); refine jt ⟨?_⟩
  refine ⟨L5, ?_, hS.sub (kAb _ _)⟩
  simpa using hW
end Go.Proofs.YtkgibdhpijdbfaaGreatDoor
namespace Go.Proofs.YtkgibdhpijdbfaaGreatDoor
open Go Go.Eng Go.Proofs Go.Srt
set_option maxHeartbeats 4000000 in
theorem swapRange_api_Entry {w : World} {g cap len : Nat} {a b n : Int} {l P A Q B S : List EntM} {tail : List Value} {F : Value} (hh : Holds [(g, .cells ⟨l.flatMap entC ++ tail⟩ T_api_Entry (0, 0))] w) (hl : l = P ++ A ++ Q ++ B ++ S) (hAB : A.length = B.length) (hlL : l.length = len) (hlen : len ≤ 16777216) (ha : a = P.length) (hb : b = P.length + A.length + Q.length) (hn : n = A.length) :
  Cl Tryz.prog f_slices_swapRangeCmpFunc_api_Entry [.slice (some ⟨g, 0, none⟩) len cap, .int .i64 a, .int .i64 b, .int .i64 n, F] w fun _ w' => St w [g] [(g, .cells ⟨(P ++ B ++ Q ++ A ++ S).flatMap entC ++ tail⟩ T_api_Entry (0, 0))] w' := by
 have hS : St w [g] [(g, .cells ⟨l.flatMap entC ++ tail⟩ T_api_Entry (0, 0))] w := St.enter hh
 have hll : l.length = P.length + A.length + Q.length + B.length + S.length := by rw [hl]; simp only [kAa]
 refine en_slices_swapRangeCmpFunc_api_Entry rfl ?_
 refine jq ⟨?_⟩
 refine SemW.loop (fun k : Nat => [(0, .slice (some ⟨g, 0, none⟩) len cap), (1, .int .i64 a), (2, .int .i64 b), (3, .int .i64 n), (10, .int .i64 k)])
  (fun k w' => k ≤ A.length ∧ St w [g] [(g, .cells ⟨(rg P A Q B S k).flatMap entC ++ tail⟩ T_api_Entry (0, 0))] w') (fun k => A.length - k) 0
  ⟨rfl, rfl, rfl, rfl, rfl, trivial⟩ ⟨kAg _, by rw [rg_zero, ← hl]; exact hS⟩ ?_
 clear hS
 rintro k w1 ⟨hk, hS⟩
 have hrl := rg_len (P := P) (Q := Q) (S := S) (k := k) hAB
 by_cases hkl : k < A.length
 ·have hi : P.length + k < (rg P A Q B S k).length := by omega
  have hj : P.length + A.length + Q.length + k < (rg P A Q B S k).length := by omega
  have hsw := rg_swp hAB hkl hi hj rfl rfl
  refine jq ⟨?_⟩
  refine SemW.draw tblOk mixed (fun w' => St w [g] [(g, .cells ⟨(rg P A Q B S k).flatMap entC ++ tail⟩ T_api_Entry (0, 0))] w') [4, 5, 6, 7, 21, 22, 23] [4, 5, 6, 7, 0, 1, 2, 3, 8, 9, 10, 11, 12, 13, 14, 15, 16, 17, 18, 19, 20, 21, 22, 23] (by kernel_rfl) hS.drew ?_
  have hS := hS.drew
  refine jr ⟨?_⟩
  refine St.ldEC (sz := 4) (fun _ => rfl) hS hj ?_ ?_
  ·omega
  refine jr ⟨?_⟩
  refine St.ldEC (sz := 4) (fun _ => rfl) hS hi ?_ ?_
  ·omega
  refine jr ⟨?_⟩
  refine St.stE (sz := 4) (fun _ => rfl) (fun _ => rfl) hS hi ?_ ?_
  ·omega
  intro w2 hS
  refine jr ⟨?_⟩
  refine St.stE (sz := 4) (fun _ => rfl) (fun _ => rfl) hS (k := P.length + A.length + Q.length + k) (by rw [kDc]; exact hj) ?_ ?_
  ·omega
  intro w3 hS
  simp only [hsw] at hS
  refine jq ⟨?_⟩
  exact ⟨k + 1, ⟨rfl, rfl, rfl, rfl, rfl, trivial⟩, ⟨by omega, hS⟩, by omega⟩
 ·refine jq ⟨?_⟩
  rw [rg_full hAB (by omega)] at hS
  exact hS
structure RT_api_Entry where
 P : List EntM
 U : List EntM
 V : List EntM
 S : List EntM
set_option maxHeartbeats 4000000 in
theorem rotate_api_Entry {w : World} {g cap len : Nat} {a m b : Int} {l P U V S : List EntM} {tail : List Value} {F : Value} (hh : Holds [(g, .cells ⟨l.flatMap entC ++ tail⟩ T_api_Entry (0, 0))] w) (hl : l = P ++ U ++ V ++ S) (hlL : l.length = len) (hlen : len ≤ 16777216) (ha : a = P.length) (hm : m = P.length + U.length) (hb : b = P.length + U.length + V.length) (hU : 0 < U.length) (hV : 0 < V.length) :
  Cl Tryz.prog f_slices_rotateCmpFunc_api_Entry [.slice (some ⟨g, 0, none⟩) len cap, .int .i64 a, .int .i64 m, .int .i64 b, F] w fun _ w' => St w [g] [(g, .cells ⟨(P ++ V ++ U ++ S).flatMap entC ++ tail⟩ T_api_Entry (0, 0))] w' := by
 have hS : St w [g] [(g, .cells ⟨l.flatMap entC ++ tail⟩ T_api_Entry (0, 0))] w := St.enter hh
 have hll : l.length = P.length + U.length + V.length + S.length := by rw [hl]; simp only [kAa]
 refine en_slices_rotateCmpFunc_api_Entry rfl ?_
 refine jq ⟨?_⟩
 refine SemW.loop (fun x : RT_api_Entry => [(0, .slice (some ⟨g, 0, none⟩) len cap), (2, .int .i64 m), (4, F), (10, .int .i64 x.U.length), (11, .int .i64 x.V.length)])
  (fun x w' => (P ++ V ++ U ++ S = x.P ++ x.V ++ x.U ++ x.S ∧ m = x.P.length + x.U.length ∧ 0 < x.U.length ∧ 0 < x.V.length) ∧ St w [g] [(g, .cells ⟨(x.P ++ x.U ++ x.V ++ x.S).flatMap entC ++ tail⟩ T_api_Entry (0, 0))] w') (fun x => x.U.length + x.V.length) ⟨P, U, V, S⟩
  ⟨rfl, rfl, rfl, by show _ = Value.int .i64 _; congr 1; simp only; omega, by show _ = Value.int .i64 _; congr 1; simp only; omega, trivial⟩ ⟨⟨rfl, hm, hU, hV⟩, by rw [← hl]; exact hS⟩ ?_
 clear hS
 rintro ⟨P1, U1, V1, S1⟩ w1 ⟨⟨hT, hm1, hU1, hV1⟩, hS⟩
 simp only at hT hm1 hU1 hV1 hS ⊢
 have hl1 : (P1 ++ U1 ++ V1 ++ S1).length = len := by
  have := congrArg List.length hT
  simp only [kAa] at this ⊢; omega
 have hl2 : (P1 ++ U1 ++ V1 ++ S1).length = P1.length + U1.length + V1.length + S1.length := by simp only [kAa]
 by_cases hne : U1.length = V1.length
 ·refine jq ⟨?_⟩
  refine (swapRange_api_Entry hS.holds (Q := []) (A := U1) (B := V1) (P := P1) (S := S1) (by rw [kAk]) hne hl1 hlen (by omega) (by simp only [kAq]; omega) rfl).mono ?_
  intro _ w2 hS'
  have hS := hS.call1 hS'
  rw [kAk, ← hT] at hS
  refine jq ⟨?_⟩
  exact hS
 ·by_cases hgt : V1.length < U1.length
  ·obtain ⟨X, Y, hXY, hX⟩ : ∃ X Y, U1 = X ++ Y ∧ X.length = V1.length := ⟨U1.take V1.length, U1.drop V1.length, (kAu _ _).symm, by rw [kAo]; omega⟩
   have hY : U1.length = V1.length + Y.length := by rw [hXY, kAa, hX]
   refine jq ⟨?_⟩
   refine (swapRange_api_Entry hS.holds (Q := Y) (A := X) (B := V1) (P := P1) (S := S1) (by rw [hXY]; simp only [kAc]) hX hl1 hlen (by omega) (by omega) (by omega)).mono ?_
   intro _ w2 hS'
   have hS := hS.call1 hS'
   refine jq ⟨?_⟩
   refine ⟨⟨P1 ++ V1, Y, X, S1⟩, ⟨rfl, rfl, rfl, by show _ = Value.int .i64 _; congr 1; simp only; omega, by show _ = Value.int .i64 _; congr 1; simp only; omega, trivial⟩, ⟨⟨by rw [hT, hXY]; simp only [kAc], by simp only [kAa]; omega, by simp only; omega, by simp only; omega⟩, hS⟩, by simp only; omega⟩
  ·obtain ⟨X, Y, hXY, hY⟩ : ∃ X Y, V1 = X ++ Y ∧ Y.length = U1.length := ⟨V1.take (V1.length - U1.length), V1.drop (V1.length - U1.length), (kAu _ _).symm, by rw [kBf]; omega⟩
   have hX : V1.length = X.length + U1.length := by rw [hXY, kAa, hY]
   refine jq ⟨?_⟩
   refine (swapRange_api_Entry hS.holds (Q := X) (A := U1) (B := Y) (P := P1) (S := S1) (by rw [hXY]; simp only [kAc]) hY.symm hl1 hlen (by omega) (by omega) rfl).mono ?_
   intro _ w2 hS'
   have hS := hS.call1 hS'
   refine jq ⟨?_⟩
   refine ⟨⟨P1, Y, X, U1 ++ S1⟩, ⟨rfl, rfl, rfl, by show _ = Value.int .i64 _; congr 1; simp only; omega, by show _ = Value.int .i64 _; congr 1; simp only; omega, trivial⟩, ⟨⟨by rw [hT, hXY]; simp only [kAc], by simp only; omega, by simp only; omega, by simp only; omega⟩, by simp only [kAc] at hS ⊢; exact hS⟩, by simp only; omega⟩
structure IT_api_Entry where
 M : List EntM
 k : Nat
structure JT_api_Entry where
 U : List EntM
 V : List EntM
set_option maxHeartbeats 8000000 in
theorem insertion_api_Entry {fc : FuncId} {cm : EntM → EntM → Int} (hO : Ord fun x y => decide (cm x y < 0)) (hcm : ∀ (x y : EntM) (w : World), Cl Tryz.prog fc [entV x, entV y] w fun v w' => v = .int .i64 (cm x y) ∧ St w [] [] w') {w : World} {g cap len : Nat} {a b : Int} {l P M S : List EntM} {tail : List Value} (hh : Holds [(g, .cells ⟨l.flatMap entC ++ tail⟩ T_api_Entry (0, 0))] w) (hl : l = P ++ M ++ S) (hlL : l.length = len) (hlen : len ≤ 16777216) (ha : a = P.length) (hb : b = P.length + M.length) :
  Cl Tryz.prog f_slices_insertionSortCmpFunc_api_Entry [.slice (some ⟨g, 0, none⟩) len cap, .int .i64 a, .int .i64 b, .func (.func fc) ⟨[]⟩ ⟨[]⟩] w fun _ w' => ∃ M', M'.Perm M ∧ Srt (fun x y => decide (cm x y < 0)) M' ∧ St w [g] [(g, .cells ⟨(P ++ M' ++ S).flatMap entC ++ tail⟩ T_api_Entry (0, 0))] w' := by
 have hS : St w [g] [(g, .cells ⟨l.flatMap entC ++ tail⟩ T_api_Entry (0, 0))] w := St.enter hh
 have hll : len = P.length + M.length + S.length := by rw [← hlL, hl]; simp only [kAa]
 subst hl
 refine en_slices_insertionSortCmpFunc_api_Entry rfl ?_
 refine jq ⟨?_⟩
 refine SemW.loop (fun x : IT_api_Entry => [(0, .slice (some ⟨g, 0, none⟩) len cap), (1, .int .i64 a), (2, .int .i64 b), (3, .func (.func fc) ⟨[]⟩ ⟨[]⟩), (8, .int .i64 (a + 1 + x.k))])
  (fun x w' => (x.M.Perm M ∧ (0 < M.length → x.k + 1 ≤ M.length) ∧ Srt (fun x y => decide (cm x y < 0)) (x.M.take (x.k + 1))) ∧ St w [g] [(g, .cells ⟨(P ++ x.M ++ S).flatMap entC ++ tail⟩ T_api_Entry (0, 0))] w') (fun x => M.length - x.k) ⟨M, 0⟩
  ⟨rfl, rfl, rfl, rfl, by show _ = Value.int .i64 _; congr 1; simp only; omega, trivial⟩ ⟨⟨List.Perm.refl _, by simp only; omega, by cases M with | nil => exact Srt.nil | cons z M => exact List.pairwise_singleton _ _⟩, hS⟩ ?_
 clear hS
 rintro ⟨M1, k⟩ w1 ⟨⟨hp, hk, hs⟩, hS⟩
 simp only at hp hk hs hS ⊢
 have hpl := hp.length_eq
 by_cases hkl : k + 1 < M.length
 ·obtain ⟨B, x, R, hM1, hB, -⟩ := cut_at (l := M1) (k := k + 1) (by omega)
  rw [hM1, kCa hB] at hs
  subst hM1
  refine jq ⟨?_⟩
  refine SemW.loop (fun y : JT_api_Entry => [(0, .slice (some ⟨g, 0, none⟩) len cap), (1, .int .i64 a), (2, .int .i64 b), (3, .func (.func fc) ⟨[]⟩ ⟨[]⟩), (8, .int .i64 (a + 1 + k)), (9, .int .i64 (a + y.U.length))])
   (fun y w' => (y.U ++ y.V = B ∧ ∀ v ∈ y.V, decide (cm x v < 0) = true) ∧ St w [g] [(g, .cells ⟨(P ++ (y.U ++ x :: y.V ++ R) ++ S).flatMap entC ++ tail⟩ T_api_Entry (0, 0))] w') (fun y => y.U.length) ⟨B, []⟩
   ⟨rfl, rfl, rfl, rfl, rfl, by show _ = Value.int .i64 _; congr 1; simp only; omega, trivial⟩ ⟨⟨by simp, by simp⟩, by simpa using hS⟩ ?_
  clear hS
  rintro ⟨U, V⟩ w2 ⟨⟨hUV, hV⟩, hS⟩
  simp only at hUV hV hS ⊢
  have hUl : U.length + V.length = k + 1 := by rw [← hB, ← hUV, kAa]
  have hcl : (P ++ (U ++ x :: V ++ R) ++ S).length = len := by
   have := hp.length_eq
   simp only [kAa, kAe] at this ⊢; omega
  by_cases hU : U = []
  ·subst hU
   simp only [kAq]
   refine jq ⟨?_⟩
   refine SemW.draw tblOk mixed (fun w' => St w [g] [(g, .cells ⟨(P ++ ([] ++ x :: V ++ R) ++ S).flatMap entC ++ tail⟩ T_api_Entry (0, 0))] w') [14, 15, 16] [0, 1, 2, 3, 4, 5, 6, 7, 8, 9, 10, 11, 12, 13, 14, 15, 16] (by kernel_rfl) hS.drew ?_
   have hS := hS.drew
   refine jr ⟨?_⟩
   refine ⟨⟨x :: V ++ R, k + 1⟩, ⟨rfl, rfl, rfl, rfl, by show _ = Value.int .i64 _; congr 1; simp only; omega, trivial⟩, ⟨⟨?_, by simp only; omega, ?_⟩, by simpa using hS⟩, by simp only; omega⟩
   ·refine List.Perm.trans ?_ hp
    rw [← hUV, kBj]
    simp only [kBe]
    exact kBg.symm
   ·have e4 : (x :: V ++ R).take (k + 1 + 1) = x :: V := kCa (by rw [kAq] at hUl; simp only [kAe]; omega)
    simp only [e4]
    rw [← hUV] at hs
    exact insert_sorted hO (U := []) hs hV nofun
  ·obtain ⟨U', u, rfl⟩ : ∃ U' u, U = U' ++ [u] := ⟨U.dropLast, U.getLast hU, (List.dropLast_concat_getLast hU).symm⟩
   rw [kAa, kBv] at hUl
   have hUu : (U' ++ [u]).length = U'.length + 1 := by simp
   rw [hUu]
   have e0 : P ++ (U' ++ [u] ++ x :: V ++ R) ++ S = (P ++ U') ++ u :: x :: (V ++ R ++ S) := by simp
   rw [e0] at hS
   have hi : P.length + U'.length < ((P ++ U') ++ u :: x :: (V ++ R ++ S)).length := by simp only [kAa, kAe]; omega
   have hj : P.length + U'.length + 1 < ((P ++ U') ++ u :: x :: (V ++ R ++ S)).length := by simp only [kAa, kAe]; omega
   have e1 : ((P ++ U') ++ u :: x :: (V ++ R ++ S))[P.length + U'.length] = u := get_mid _ _ _ _ _ (by rw [kAa])
   have e2 : ((P ++ U') ++ u :: x :: (V ++ R ++ S))[P.length + U'.length + 1] = x := get_adj _ _ _ _ _ _ (by rw [kAa])
   have hsw := swp_adj (P ++ U') (V ++ R ++ S) u x (P.length + U'.length) (by rw [kAa])
   refine jq ⟨?_⟩
   refine SemW.draw tblOk mixed (fun w' => St w [g] [(g, .cells ⟨(P ++ U' ++ u :: x :: (V ++ R ++ S)).flatMap entC ++ tail⟩ T_api_Entry (0, 0))] w') [14, 15, 16] [0, 1, 2, 3, 4, 5, 6, 7, 8, 9, 10, 11, 12, 13, 14, 15, 16] (by kernel_rfl) hS.drew ?_
   have hS := hS.drew
   refine jr ⟨?_⟩
   refine St.ldEC (sz := 4) (cv := entC) (fun _ => rfl) hS hj ?_ ?_
   ·omega
   rw [e2]
   refine jr ⟨?_⟩
   refine St.ldEC (sz := 4) (cv := entC) (fun _ => rfl) hS hi ?_ ?_
   ·omega
   rw [e1]
   refine jr ⟨?_⟩
   refine (hcm x u _).mono ?_
   rintro _ w3 ⟨rfl, hS'⟩
   have hS := hS.call0 hS'
   by_cases hlt : cm x u < 0
   ·refine jq ⟨?_⟩
    refine SemW.draw tblOk mixed (fun w' => St w [g] [(g, .cells ⟨(P ++ U' ++ u :: x :: (V ++ R ++ S)).flatMap entC ++ tail⟩ T_api_Entry (0, 0))] w') [2, 3, 4, 15, 16, 17] [2, 3, 4, 0, 1, 5, 6, 7, 8, 9, 10, 11, 12, 13, 14, 15, 16, 17] (by kernel_rfl) hS.drew ?_
    have hS := hS.drew
    refine jr ⟨?_⟩
    refine St.ldEC (sz := 4) (cv := entC) (fun _ => rfl) hS hi ?_ ?_
    ·omega
    rw [e1]
    refine jr ⟨?_⟩
    refine St.ldEC (sz := 4) (cv := entC) (fun _ => rfl) hS hj ?_ ?_
    ·omega
    rw [e2]
    refine jr ⟨?_⟩
    refine St.stE (sz := 4) (cv := entC) (fun _ => rfl) (fun _ => rfl) hS hj ?_ ?_
    ·omega
    intro w4 hS
    refine jr ⟨?_⟩
    refine St.stE (sz := 4) (cv := entC) (fun _ => rfl) (fun _ => rfl) hS (k := P.length + U'.length) (by rw [kDc]; exact hi) ?_ ?_
    ·omega
    intro w5 hS
    rw [hsw] at hS
    refine jq ⟨?_⟩
    refine ⟨⟨U', u :: V⟩, ⟨rfl, rfl, rfl, rfl, rfl, by show _ = Value.int .i64 _; congr 1; simp only; omega, trivial⟩, ⟨⟨by rw [← hUV]; simp, ?_⟩, ?_⟩, by simp only; omega⟩
    ·intro v hv
     rcases kAf.1 hv with rfl | hv
     ·exact decide_eq_true hlt
     ·exact hV v hv
    ·have e3 : P ++ (U' ++ x :: (u :: V) ++ R) ++ S = P ++ U' ++ x :: u :: (V ++ R ++ S) := by simp
     simp only [e3]; exact hS
   ·refine jq ⟨?_⟩
    refine ⟨⟨U' ++ [u] ++ x :: V ++ R, k + 1⟩, ⟨rfl, rfl, rfl, rfl, by show _ = Value.int .i64 _; congr 1; simp only; omega, trivial⟩, ⟨⟨?_, by simp only; omega, ?_⟩, ?_⟩, by simp only; omega⟩
    ·refine List.Perm.trans ?_ hp
     rw [← hUV]
     refine (List.Perm.append_right R (kBg)).trans ?_
     simp only [kBe]
     exact kBg.symm
    ·have e4 : (U' ++ [u] ++ x :: V ++ R).take (k + 1 + 1) = U' ++ [u] ++ x :: V := kCa (by simp only [kAa, kAe, kAq]; omega)
     simp only [e4]
     rw [← hUV] at hs
     exact insert_sorted hO hs hV fun z hz => (by rw [List.getLast?_concat, Option.some.injEq] at hz; subst hz; exact decide_eq_false hlt)
    ·rw [← e0] at hS; exact hS
 ·refine jq ⟨?_⟩
  refine ⟨M1, hp, ?_, hS⟩
  rw [kDi (by omega)] at hs
  exact hs
end Go.Proofs.YtkgibdhpijdbfaaGreatDoor
