/- Texts of this claim, one behind the other. -/
import Derived.Test.YtkgibdhpijdbfaaGreatDoorZ2
import Derived.Test.YtkgibdhpijdbfaaGreatDoorZ1
import Derived.Laws.CopyRow
import Derived.Laws.StructEq
import Derived.Test.YtkgibdhpijdbfaaGreatDoorZ0
import Derived.Laws.MakeOwn
import Derived.Laws.OwnMore
set_option linter.unusedVariables false
set_option linter.unusedSimpArgs false
namespace Go.Proofs.YtkgibdhpijdbfaaGreatDoor
open Go Go.Eng Go.Proofs Go.Srt
set_option maxHeartbeats 8000000 in
theorem merge1_api_Entry {fc : FuncId} {cm : EntM → EntM → Int} (hO : Ord fun x y => decide (cm x y < 0)) (hcm : ∀ (x y : EntM) (w : World), Cl Tryz.prog fc [entV x, entV y] w fun v w' => v = .int .i64 (cm x y) ∧ St w [] [] w') {w : World} {g cap len : Nat} {a m b : Int} {l P B S : List EntM} {x : EntM} {tail : List Value} (hh : Holds [(g, .cells ⟨l.flatMap entC ++ tail⟩ T_api_Entry (0, 0))] w) (hl : l = P ++ x :: B ++ S) (hlL : l.length = len) (hlen : len ≤ 16777216) (ha : a = P.length) (hm : m = P.length + 1) (hb : b = P.length + 1 + B.length) (hB : Srt (fun x y => decide (cm x y < 0)) B) :
  Cl Tryz.prog f_slices_symMergeCmpFunc_api_Entry [.slice (some ⟨g, 0, none⟩) len cap, .int .i64 a, .int .i64 m, .int .i64 b, .func (.func fc) ⟨[]⟩ ⟨[]⟩] w fun _ w' => ∃ M', M'.Perm (x :: B) ∧ Srt (fun x y => decide (cm x y < 0)) M' ∧ St w [g] [(g, .cells ⟨(P ++ M' ++ S).flatMap entC ++ tail⟩ T_api_Entry (0, 0))] w' := by
 have hS : St w [g] [(g, .cells ⟨l.flatMap entC ++ tail⟩ T_api_Entry (0, 0))] w := St.enter hh
 have hll : len = P.length + 1 + B.length + S.length := by rw [← hlL, hl]; simp only [kAa, kAe]; omega
 subst hl
 refine en_slices_symMergeCmpFunc_api_Entry rfl ?_
 refine jq ⟨?_⟩
 refine SemW.loop (fun x : Nat × Nat => [(0, .slice (some ⟨g, 0, none⟩) len cap), (1, .int .i64 a), (2, .int .i64 m), (3, .int .i64 b), (4, .func (.func fc) ⟨[]⟩ ⟨[]⟩), (10, .int .i64 (m + x.1)), (11, .int .i64 (m + x.2))])
  (fun z w' => (z.1 ≤ z.2 ∧ z.2 ≤ B.length ∧ (∀ u, (B.take z.1).getLast? = some u → cm u x < 0) ∧ (∀ v, (B.drop z.2).head? = some v → ¬ cm v x < 0)) ∧ St w [g] [(g, .cells ⟨(P ++ x :: B ++ S).flatMap entC ++ tail⟩ T_api_Entry (0, 0))] w') (fun z => z.2 - z.1) (0, B.length)
  ⟨rfl, rfl, rfl, rfl, rfl, by show _ = Value.int .i64 _; congr 1; simp only; omega, by show _ = Value.int .i64 _; congr 1; simp only; omega, trivial⟩ ⟨⟨kAg _, kAd _, by simp, by simp⟩, hS⟩ ?_
 clear hS
 rintro ⟨i, j⟩ w1 ⟨⟨hij, hj, h1, h2⟩, hS⟩
 simp only at hij hj h1 h2 hS ⊢
 by_cases hlt : i < j
 ·refine jq ⟨?_⟩
  obtain ⟨h, hh⟩ : ∃ h, h = (i + j) / 2 := ⟨_, rfl⟩
  have hi : P.length + 1 + h < (P ++ x :: B ++ S).length := by omega
  have hjj : P.length < (P ++ x :: B ++ S).length := by omega
  have hhB : h < B.length := by omega
  have e1 : (P ++ x :: B ++ S)[P.length + 1 + h] = B[h] := by
   have e3 : P ++ x :: B ++ S = (P ++ [x]) ++ B ++ S := by simp
   have e4 : (P ++ [x]).length = P.length + 1 := by simp
   have e5 : (P ++ x :: B ++ S)[P.length + 1 + h]? = some B[h] := by
    rw [e3, kAc, kBh (by omega), e4, show P.length + 1 + h - (P.length + 1) = h by omega, kAz hhB, kAp hhB]
   rw [kAp hi, Option.some.injEq] at e5
   exact e5
  have e2 : (P ++ x :: B ++ S)[P.length] = x := by
   have e3 : P ++ x :: B ++ S = P ++ x :: (B ++ S) := by simp
   have := get_mid P (B ++ S) x P.length (by rw [← e3]; exact hjj) rfl
   simp only [e3]; exact this
  refine IntG.half (r := m + h) (by omega) (by omega) ?_
  refine jq ⟨?_⟩
  refine SemW.draw tblOk mixed (fun w' => St w [g] [(g, .cells ⟨(P ++ x :: B ++ S).flatMap entC ++ tail⟩ T_api_Entry (0, 0))] w') [9, 10] [0, 1, 2, 3, 4, 5, 6, 7, 8, 9, 10] (by kernel_rfl) hS.drew ?_
  have hS := hS.drew
  refine jr ⟨?_⟩
  refine St.ldEC (sz := 4) (cv := entC) (fun _ => rfl) hS hi ?_ ?_
  ·omega
  rw [e1]
  refine jr ⟨?_⟩
  refine St.ldEC (sz := 4) (cv := entC) (fun _ => rfl) hS hjj ?_ ?_
  ·omega
  rw [e2]
  refine jr ⟨?_⟩
  refine (hcm B[h] x _).mono ?_
  rintro _ w3 ⟨rfl, hS'⟩
  have hS := hS.call0 hS'
  by_cases hc : cm B[h] x < 0
  ·refine jq ⟨?_⟩
   refine ⟨(h + 1, j), ⟨rfl, rfl, rfl, rfl, rfl, by show _ = Value.int .i64 _; congr 1; simp only; omega, rfl, trivial⟩, ⟨⟨by simp only; omega, hj, fun u hu => ?_, h2⟩, hS⟩, by simp only; omega⟩
   rw [take_last hhB, Option.some.injEq] at hu; subst hu; exact hc
  ·refine jq ⟨?_⟩
   refine ⟨(i, h), ⟨rfl, rfl, rfl, rfl, rfl, rfl, rfl, trivial⟩, ⟨⟨by simp only; omega, by simp only; omega, h1, fun u hu => ?_⟩, hS⟩, by simp only; omega⟩
   rw [drop_head hhB, Option.some.injEq] at hu; subst hu; exact hc
 ·have hij' : i = j := by omega
  subst hij'
  refine jq ⟨?_⟩
  obtain ⟨B1, B2, rfl, hB1⟩ : ∃ B1 B2, B = B1 ++ B2 ∧ B1.length = i := ⟨B.take i, B.drop i, (kAu _ _).symm, by rw [kAo]; omega⟩
  rw [kCa hB1] at h1
  rw [List.drop_left' hB1] at h2
  rw [kAa] at hj hb hll
  refine SemW.loop (fun z : List EntM × List EntM => [(0, .slice (some ⟨g, 0, none⟩) len cap), (10, .int .i64 (m + i)), (13, .int .i64 (a + z.1.length))])
   (fun z w' => (z.1 ++ z.2 = B1) ∧ St w [g] [(g, .cells ⟨(P ++ z.1 ++ x :: (z.2 ++ B2 ++ S)).flatMap entC ++ tail⟩ T_api_Entry (0, 0))] w') (fun z => z.2.length) ([], B1)
   ⟨rfl, rfl, by show _ = Value.int .i64 _; congr 1; simp only [kAq]; omega, trivial⟩ ⟨rfl, by simpa using hS⟩ ?_
  clear hS
  rintro ⟨V, W⟩ w2 ⟨hVW, hS⟩
  simp only at hVW hS ⊢
  have hVl : V.length + W.length = i := by rw [← hB1, ← hVW, kAa]
  cases W with
  |nil =>
   rw [kAk] at hVW
   subst hVW
   rw [kAq] at hVl
   refine jq ⟨?_⟩
   refine ⟨V ++ x :: B2, kBg, insert_sorted' hO hB (fun u hu => decide_eq_true (h1 u hu)) (fun v hv => decide_eq_false (h2 v hv)), by simpa using hS⟩
  |cons y W =>
   rw [kAe] at hVl
   have hcl : (P ++ V ++ x :: y :: (W ++ B2 ++ S)).length = len := by
    simp only [kAa, kAe]; omega
   have hS : St w [g] [(g, .cells ⟨(P ++ V ++ x :: y :: (W ++ B2 ++ S)).flatMap entC ++ tail⟩ T_api_Entry (0, 0))] w2 := hS
   have hi : P.length + V.length < (P ++ V ++ x :: y :: (W ++ B2 ++ S)).length := by omega
   have hjj : P.length + V.length + 1 < (P ++ V ++ x :: y :: (W ++ B2 ++ S)).length := by omega
   have e1 : (P ++ V ++ x :: y :: (W ++ B2 ++ S))[P.length + V.length] = x := get_mid _ _ _ _ _ (by rw [kAa])
   have e2 : (P ++ V ++ x :: y :: (W ++ B2 ++ S))[P.length + V.length + 1] = y := get_adj _ _ _ _ _ _ (by rw [kAa])
   have hsw := swp_adj' (P ++ V) (W ++ B2 ++ S) x y (P.length + V.length) (by rw [kAa])
   refine jq ⟨?_⟩
   refine SemW.draw tblOk mixed (fun w' => St w [g] [(g, .cells ⟨(P ++ V ++ x :: y :: (W ++ B2 ++ S)).flatMap entC ++ tail⟩ T_api_Entry (0, 0))] w') [2, 3, 4, 15, 16, 17] [2, 3, 4, 0, 1, 5, 6, 7, 8, 9, 10, 11, 12, 13, 14, 15, 16, 17] (by kernel_rfl) hS.drew ?_
   have hS := hS.drew
   refine jr ⟨?_⟩
   refine St.ldEC (sz := 4) (cv := entC) (fun _ => rfl) hS hjj ?_ ?_
   ·omega
   rw [e2]
   refine jr ⟨?_⟩
   refine St.ldEC (sz := 4) (cv := entC) (fun _ => rfl) hS hi ?_ ?_
   ·omega
   rw [e1]
   refine jr ⟨?_⟩
   refine St.stE (sz := 4) (cv := entC) (fun _ => rfl) (fun _ => rfl) hS hi ?_ ?_
   ·omega
   intro w4 hS
   refine jr ⟨?_⟩
   refine St.stE (sz := 4) (cv := entC) (fun _ => rfl) (fun _ => rfl) hS (k := P.length + V.length + 1) (by rw [kDc]; exact hjj) ?_ ?_
   ·omega
   intro w5 hS
   rw [hsw] at hS
   refine jq ⟨?_⟩
   refine ⟨(V ++ [y], W), ⟨rfl, rfl, by show _ = Value.int .i64 _; congr 1; simp only [kAa, kAe, kAq]; omega, trivial⟩, ⟨by rw [← hVW]; simp, ?_⟩, by simp only [kAe]; omega⟩
   have e3 : P ++ (V ++ [y]) ++ x :: (W ++ B2 ++ S) = P ++ V ++ y :: x :: (W ++ B2 ++ S) := by simp
   simp only [e3]; exact hS
set_option maxHeartbeats 8000000 in
theorem merge2_api_Entry {fc : FuncId} {cm : EntM → EntM → Int} (hO : Ord fun x y => decide (cm x y < 0)) (hcm : ∀ (x y : EntM) (w : World), Cl Tryz.prog fc [entV x, entV y] w fun v w' => v = .int .i64 (cm x y) ∧ St w [] [] w') {w : World} {g cap len : Nat} {a m b : Int} {l P A S : List EntM} {y : EntM} {tail : List Value} (hh : Holds [(g, .cells ⟨l.flatMap entC ++ tail⟩ T_api_Entry (0, 0))] w) (hl : l = P ++ A ++ y :: S) (hlL : l.length = len) (hlen : len ≤ 16777216) (ha : a = P.length) (hm : m = P.length + A.length) (hb : b = P.length + A.length + 1) (hA : Srt (fun x y => decide (cm x y < 0)) A) (hA2 : 2 ≤ A.length) :
  Cl Tryz.prog f_slices_symMergeCmpFunc_api_Entry [.slice (some ⟨g, 0, none⟩) len cap, .int .i64 a, .int .i64 m, .int .i64 b, .func (.func fc) ⟨[]⟩ ⟨[]⟩] w fun _ w' => ∃ M', M'.Perm (A ++ [y]) ∧ Srt (fun x y => decide (cm x y < 0)) M' ∧ St w [g] [(g, .cells ⟨(P ++ M' ++ S).flatMap entC ++ tail⟩ T_api_Entry (0, 0))] w' := by
 have hS : St w [g] [(g, .cells ⟨l.flatMap entC ++ tail⟩ T_api_Entry (0, 0))] w := St.enter hh
 have hll : len = P.length + A.length + 1 + S.length := by rw [← hlL, hl]; simp only [kAa, kAe]; omega
 subst hl
 refine en_slices_symMergeCmpFunc_api_Entry rfl ?_
 refine jq ⟨?_⟩
 refine SemW.loop (fun x : Nat × Nat => [(0, .slice (some ⟨g, 0, none⟩) len cap), (1, .int .i64 a), (2, .int .i64 m), (3, .int .i64 b), (4, .func (.func fc) ⟨[]⟩ ⟨[]⟩), (14, .int .i64 (a + x.1)), (15, .int .i64 (a + x.2))])
  (fun z w' => (z.1 ≤ z.2 ∧ z.2 ≤ A.length ∧ (∀ u, (A.take z.1).getLast? = some u → ¬ cm y u < 0) ∧ (∀ v, (A.drop z.2).head? = some v → cm y v < 0)) ∧ St w [g] [(g, .cells ⟨(P ++ A ++ y :: S).flatMap entC ++ tail⟩ T_api_Entry (0, 0))] w') (fun z => z.2 - z.1) (0, A.length)
  ⟨rfl, rfl, rfl, rfl, rfl, by show _ = Value.int .i64 _; congr 1; simp only; omega, by show _ = Value.int .i64 _; congr 1; simp only; omega, trivial⟩ ⟨⟨kAg _, kAd _, by simp, by simp⟩, hS⟩ ?_
 clear hS
 rintro ⟨i, j⟩ w1 ⟨⟨hij, hj, h1, h2⟩, hS⟩
 simp only at hij hj h1 h2 hS ⊢
 by_cases hlt : i < j
 ·refine jq ⟨?_⟩
  obtain ⟨h, hh⟩ : ∃ h, h = (i + j) / 2 := ⟨_, rfl⟩
  have hi : P.length + A.length < (P ++ A ++ y :: S).length := by omega
  have hjj : P.length + h < (P ++ A ++ y :: S).length := by omega
  have hhA : h < A.length := by omega
  have e1 : (P ++ A ++ y :: S)[P.length + A.length] = y := get_mid _ _ _ _ _ (by rw [kAa])
  have e2 : (P ++ A ++ y :: S)[P.length + h] = A[h] := by
   have e5 : (P ++ A ++ y :: S)[P.length + h]? = some A[h] := by
    rw [kAc, kBh (by omega), show P.length + h - P.length = h by omega, kAz hhA, kAp hhA]
   rw [kAp hjj, Option.some.injEq] at e5
   exact e5
  refine IntG.half (r := a + h) (by omega) (by omega) ?_
  refine jq ⟨?_⟩
  refine SemW.draw tblOk mixed (fun w' => St w [g] [(g, .cells ⟨(P ++ A ++ y :: S).flatMap entC ++ tail⟩ T_api_Entry (0, 0))] w') [9, 10, 11] [0, 1, 2, 3, 4, 5, 6, 7, 8, 9, 10, 11] (by kernel_rfl) hS.drew ?_
  have hS := hS.drew
  refine jr ⟨?_⟩
  refine St.ldEC (sz := 4) (cv := entC) (fun _ => rfl) hS hi ?_ ?_
  ·omega
  rw [e1]
  refine jr ⟨?_⟩
  refine St.ldEC (sz := 4) (cv := entC) (fun _ => rfl) hS hjj ?_ ?_
  ·omega
  rw [e2]
  refine jr ⟨?_⟩
  refine (hcm y A[h] _).mono ?_
  rintro _ w3 ⟨rfl, hS'⟩
  have hS := hS.call0 hS'
  by_cases hc : cm y A[h] < 0
  ·refine jq ⟨?_⟩
   refine ⟨(i, h), ⟨rfl, rfl, rfl, rfl, rfl, rfl, rfl, trivial⟩, ⟨⟨by simp only; omega, by simp only; omega, h1, fun u hu => ?_⟩, hS⟩, by simp only; omega⟩
   rw [drop_head hhA, Option.some.injEq] at hu; subst hu; exact hc
  ·refine jq ⟨?_⟩
   refine ⟨(h + 1, j), ⟨rfl, rfl, rfl, rfl, rfl, by show _ = Value.int .i64 _; congr 1; simp only; omega, rfl, trivial⟩, ⟨⟨by simp only; omega, hj, fun u hu => ?_, h2⟩, hS⟩, by simp only; omega⟩
   rw [take_last hhA, Option.some.injEq] at hu; subst hu; exact hc
 ·have hij' : i = j := by omega
  subst hij'
  refine jq ⟨?_⟩
  obtain ⟨A1, A2, rfl, hA1⟩ : ∃ A1 A2, A = A1 ++ A2 ∧ A1.length = i := ⟨A.take i, A.drop i, (kAu _ _).symm, by rw [kAo]; omega⟩
  rw [kCa hA1] at h1
  rw [List.drop_left' hA1] at h2
  rw [kAa] at hj hb hll hm
  refine SemW.loop (fun z : List EntM × List EntM => [(0, .slice (some ⟨g, 0, none⟩) len cap), (14, .int .i64 (a + i)), (17, .int .i64 (a + i + z.1.length))])
   (fun z w' => (z.1 ++ z.2 = A2) ∧ St w [g] [(g, .cells ⟨(P ++ A1 ++ z.1 ++ y :: (z.2 ++ S)).flatMap entC ++ tail⟩ T_api_Entry (0, 0))] w') (fun z => z.1.length) (A2, [])
   ⟨rfl, rfl, by show _ = Value.int .i64 _; congr 1; simp only; omega, trivial⟩ ⟨by simp, by simpa using hS⟩ ?_
  clear hS
  rintro ⟨V, W⟩ w2 ⟨hVW, hS⟩
  simp only at hVW hS ⊢
  have hVl : V.length + W.length = A2.length := by rw [← hVW, kAa]
  by_cases hV : V = []
  ·subst hV
   rw [kBj] at hVW
   subst hVW
   simp only [kAq]
   refine jq ⟨?_⟩
   refine ⟨A1 ++ y :: W, kBg.trans (List.perm_append_singleton y (A1 ++ W)).symm, insert_sortedR hO hA (fun u hu => decide_eq_false (h1 u hu)) (fun v hv => decide_eq_true (h2 v hv)), by simpa using hS⟩
  ·obtain ⟨V', x, rfl⟩ : ∃ V' x, V = V' ++ [x] := ⟨V.dropLast, V.getLast hV, (List.dropLast_concat_getLast hV).symm⟩
   have hVx : (V' ++ [x]).length = V'.length + 1 := by simp
   rw [hVx] at hVl ⊢
   have e0 : P ++ A1 ++ (V' ++ [x]) ++ y :: (W ++ S) = P ++ A1 ++ V' ++ x :: y :: (W ++ S) := by simp
   rw [e0] at hS
   have hcl : (P ++ A1 ++ V' ++ x :: y :: (W ++ S)).length = len := by
    simp only [kAa, kAe]; omega
   have hn : P.length + A1.length + V'.length = (P ++ A1 ++ V').length := by simp only [kAa]
   have hi : P.length + A1.length + V'.length < (P ++ A1 ++ V' ++ x :: y :: (W ++ S)).length := by omega
   have hjj : P.length + A1.length + V'.length + 1 < (P ++ A1 ++ V' ++ x :: y :: (W ++ S)).length := by omega
   have e1 : (P ++ A1 ++ V' ++ x :: y :: (W ++ S))[P.length + A1.length + V'.length] = x := get_mid _ _ _ _ _ hn
   have e2 : (P ++ A1 ++ V' ++ x :: y :: (W ++ S))[P.length + A1.length + V'.length + 1] = y := get_adj _ _ _ _ _ _ (by rw [hn])
   have hsw := swp_adj (P ++ A1 ++ V') (W ++ S) x y (P.length + A1.length + V'.length) hn
   refine jq ⟨?_⟩
   refine SemW.draw tblOk mixed (fun w' => St w [g] [(g, .cells ⟨(P ++ A1 ++ V' ++ x :: y :: (W ++ S)).flatMap entC ++ tail⟩ T_api_Entry (0, 0))] w') [2, 3, 4, 15, 16, 17] [2, 3, 4, 0, 1, 5, 6, 7, 8, 9, 10, 11, 12, 13, 14, 15, 16, 17] (by kernel_rfl) hS.drew ?_
   have hS := hS.drew
   refine jr ⟨?_⟩
   refine St.ldEC (sz := 4) (cv := entC) (fun _ => rfl) hS hi ?_ ?_
   ·omega
   rw [e1]
   refine jr ⟨?_⟩
   refine St.ldEC (sz := 4) (cv := entC) (fun _ => rfl) hS hjj ?_ ?_
   ·omega
   rw [e2]
   refine jr ⟨?_⟩
   refine St.stE (sz := 4) (cv := entC) (fun _ => rfl) (fun _ => rfl) hS hjj ?_ ?_
   ·omega
   intro w4 hS
   refine jr ⟨?_⟩
   refine St.stE (sz := 4) (cv := entC) (fun _ => rfl) (fun _ => rfl) hS (k := P.length + A1.length + V'.length) (by rw [kDc]; exact hi) ?_ ?_
   ·omega
   intro w5 hS
   rw [hsw] at hS
   refine jq ⟨?_⟩
   refine ⟨(V', x :: W), ⟨rfl, rfl, by show _ = Value.int .i64 _; congr 1; simp only; omega, trivial⟩, ⟨by rw [← hVW]; simp, hS⟩, by simp only; omega⟩
set_option maxRecDepth 4000 in
set_option maxHeartbeats 16000000 in
theorem merge_api_Entry {fc : FuncId} {cm : EntM → EntM → Int} (hO : Ord fun x y => decide (cm x y < 0)) (hcm : ∀ (x y : EntM) (w : World), Cl Tryz.prog fc [entV x, entV y] w fun v w' => v = .int .i64 (cm x y) ∧ St w [] [] w') {g cap len : Nat} {tail : List Value} (hlen : len ≤ 16777216) : ∀ (N : Nat) {w : World} {a m b : Int} {l P A B S : List EntM}, Holds [(g, .cells ⟨l.flatMap entC ++ tail⟩ T_api_Entry (0, 0))] w → l = P ++ A ++ B ++ S → l.length = len → a = P.length → m = P.length + A.length → b = P.length + A.length + B.length → Srt (fun x y => decide (cm x y < 0)) A → Srt (fun x y => decide (cm x y < 0)) B → 1 ≤ A.length → 1 ≤ B.length → A.length + B.length ≤ N →
  Cl Tryz.prog f_slices_symMergeCmpFunc_api_Entry [.slice (some ⟨g, 0, none⟩) len cap, .int .i64 a, .int .i64 m, .int .i64 b, .func (.func fc) ⟨[]⟩ ⟨[]⟩] w fun _ w' => ∃ M', M'.Perm (A ++ B) ∧ Srt (fun x y => decide (cm x y < 0)) M' ∧ St w [g] [(g, .cells ⟨(P ++ M' ++ S).flatMap entC ++ tail⟩ T_api_Entry (0, 0))] w' := by
 intro N
 induction N with
 |zero => intro w a m b l P A B S hh hl hlL ha hm hb hA hB hA1 hB1 hN; omega
 |succ N ih =>
 intro w a m b l P A B S hh hl hlL ha hm hb hA hB hA1 hB1 hN
 by_cases c1 : A.length = 1
 ·obtain ⟨x, rfl⟩ := kDk.1 c1
  rw [kBv] at hm hb
  exact merge1_api_Entry hO hcm hh (by rw [hl]; simp) hlL hlen ha hm hb hB
 by_cases c2 : B.length = 1
 ·obtain ⟨y, rfl⟩ := kDk.1 c2
  rw [kBv] at hb
  exact merge2_api_Entry hO hcm hh (by rw [hl]; simp) hlL hlen ha hm hb hA (by omega)
 have hS : St w [g] [(g, .cells ⟨l.flatMap entC ++ tail⟩ T_api_Entry (0, 0))] w := St.enter hh
 have hll : len = P.length + A.length + B.length + S.length := by rw [← hlL, hl]; simp only [kAa]
 have hat1 : ∀ c (hc : c < A.length) (h : P.length + c < (P ++ A ++ B ++ S).length), (P ++ A ++ B ++ S)[P.length + c] = A[c] := by
  intro c hc h
  have e5 : (P ++ A ++ B ++ S)[P.length + c]? = some A[c] := by
   rw [kAc, kAc, kBh (by omega), show P.length + c - P.length = c by omega, kAz hc, kAp hc]
  rw [kAp h, Option.some.injEq] at e5
  exact e5
 have hat2 : ∀ c (hc : c < B.length) (h : P.length + A.length + c < (P ++ A ++ B ++ S).length), (P ++ A ++ B ++ S)[P.length + A.length + c] = B[c] := by
  intro c hc h
  have hPA : (P ++ A).length = P.length + A.length := kAa
  have e5 : (P ++ A ++ B ++ S)[P.length + A.length + c]? = some B[c] := by
   rw [kAc (P ++ A), kBh (by omega), hPA, show P.length + A.length + c - (P.length + A.length) = c by omega, kAz hc, kAp hc]
  rw [kAp h, Option.some.injEq] at e5
  exact e5
 subst hl
 obtain ⟨d, hd⟩ : ∃ d, d = (A.length + B.length) / 2 := ⟨_, rfl⟩
 -- the search: s0, r0 are its ends, counted from a
 obtain ⟨s0, r0, hsr⟩ : ∃ s0 r0 : Nat, (d < A.length → s0 = d + A.length - (A.length + B.length) ∧ r0 = d) ∧ (A.length ≤ d → s0 = 0 ∧ r0 = A.length) := by
  by_cases h : d < A.length
  ·exact ⟨d + A.length - (A.length + B.length), d, fun _ => ⟨rfl, rfl⟩, fun h' => absurd h' (by omega)⟩
  ·exact ⟨0, A.length, fun h' => absurd h' h, fun _ => ⟨rfl, rfl⟩⟩
 refine en_slices_symMergeCmpFunc_api_Entry rfl ?_
 refine jq ⟨?_⟩
 refine IntG.half (r := a + d) (by omega) (by omega) ?_
 refine jq ⟨?_⟩
 by_cases hdA : d < A.length
 all_goals
  have hs0 : s0 ≤ r0 ∧ r0 ≤ d ∧ r0 ≤ A.length ∧ d - s0 ≤ B.length := by omega
  refine jq ⟨?_⟩
  refine SemW.loop (fun z : Nat × Nat => [(0, .slice (some ⟨g, 0, none⟩) len cap), (1, .int .i64 a), (2, .int .i64 m), (3, .int .i64 b), (4, .func (.func fc) ⟨[]⟩ ⟨[]⟩), (18, .int .i64 (a + d)), (19, .int .i64 (a + d + m)), (20, .int .i64 (a + z.1)), (21, .int .i64 (a + z.2)), (22, .int .i64 (a + d + m - 1))])
   (fun z w' => (s0 ≤ z.1 ∧ z.1 ≤ z.2 ∧ z.2 ≤ r0 ∧ EdgeL (fun x y => decide (cm x y < 0)) A B d z.1 s0 ∧ EdgeR (fun x y => decide (cm x y < 0)) A B d z.2 r0) ∧ St w [g] [(g, .cells ⟨(P ++ A ++ B ++ S).flatMap entC ++ tail⟩ T_api_Entry (0, 0))] w') (fun z => z.2 - z.1) (s0, r0)
   ⟨rfl, rfl, rfl, rfl, rfl, rfl, rfl, by show _ = Value.int .i64 _; congr 1; simp only; omega, by show _ = Value.int .i64 _; congr 1; simp only; omega, rfl, trivial⟩ ⟨⟨kAd _, hs0.1, kAd _, .inl rfl, .inl rfl⟩, hS⟩ ?_
  clear hS
  rintro ⟨s, r⟩ w1 ⟨⟨q1, q2, q3, E1, E2⟩, hS⟩
  simp only at q1 q2 q3 E1 E2 hS ⊢
  by_cases hlt : s < r
  ·refine jq ⟨?_⟩
   obtain ⟨c, hc⟩ : ∃ c, c = (s + r) / 2 := ⟨_, rfl⟩
   have hcA : c < A.length := by omega
   have hcB : d - 1 - c < B.length := by omega
   have hi : P.length + A.length + (d - 1 - c) < (P ++ A ++ B ++ S).length := by omega
   have hj : P.length + c < (P ++ A ++ B ++ S).length := by omega
   have e1 := hat2 _ hcB hi
   have e2 := hat1 _ hcA hj
   refine IntG.half (r := a + c) (by omega) (by omega) ?_
   refine jq ⟨?_⟩
   refine SemW.draw tblOk mixed (fun w' => St w [g] [(g, .cells ⟨(P ++ A ++ B ++ S).flatMap entC ++ tail⟩ T_api_Entry (0, 0))] w') [11, 12, 13] [0, 1, 2, 3, 4, 5, 6, 7, 8, 9, 10, 11, 12, 13] (by kernel_rfl) hS.drew ?_
   have hS := hS.drew
   refine jr ⟨?_⟩
   refine St.ldEC (sz := 4) (cv := entC) (fun _ => rfl) hS hi ?_ ?_
   ·omega
   rw [e1]
   refine jr ⟨?_⟩
   refine St.ldEC (sz := 4) (cv := entC) (fun _ => rfl) hS hj ?_ ?_
   ·omega
   rw [e2]
   refine jr ⟨?_⟩
   refine (hcm B[d - 1 - c] A[c] _).mono ?_
   rintro _ w3 ⟨rfl, hS'⟩
   have hS := hS.call0 hS'
   by_cases hcc : cm B[d - 1 - c] A[c] < 0
   ·refine jq ⟨?_⟩
    refine ⟨(s, c), ⟨rfl, rfl, rfl, rfl, rfl, rfl, rfl, rfl, rfl, rfl, trivial⟩, ⟨⟨q1, by simp only; omega, by simp only; omega, E1, .inr ⟨A[c], B[d - 1 - c], kAp hcA, ?_, decide_eq_true hcc⟩⟩, hS⟩, by simp only; omega⟩
    rw [show d - c - 1 = d - 1 - c by omega]; exact kAp hcB
   ·refine jq ⟨?_⟩
    refine ⟨(c + 1, r), ⟨rfl, rfl, rfl, rfl, rfl, rfl, rfl, by show _ = Value.int .i64 _; congr 1; simp only; omega, rfl, rfl, trivial⟩, ⟨⟨by simp only; omega, by simp only; omega, q3, .inr ⟨A[c], B[d - 1 - c], ?_, ?_, decide_eq_false hcc⟩, E2⟩, hS⟩, by simp only; omega⟩
    ·rw [Nat.add_sub_cancel]; exact kAp hcA
    ·rw [show d - (c + 1) = d - 1 - c by omega]; exact kAp hcB
  ·have hsr' : r = s := by omega
   subst hsr'
   obtain ⟨A1, A2, rfl, hA1'⟩ : ∃ A1 A2, A = A1 ++ A2 ∧ A1.length = r := ⟨A.take r, A.drop r, (kAu _ _).symm, by rw [kAo]; omega⟩
   obtain ⟨B1, B2, rfl, hB1'⟩ : ∃ B1 B2, B = B1 ++ B2 ∧ B1.length = d - r := ⟨B.take (d - r), B.drop (d - r), (kAu _ _).symm, by rw [kAo]; omega⟩
   have k1 : ∀ x y, A1.getLast? = some x → B2.head? = some y → decide (cm y x < 0) = false := by
    intro x y hx hy
    have hx0 : 0 < A1.length := by cases A1 with | nil => cases hx | cons => simp
    have hy0 : 0 < B2.length := by cases B2 with | nil => cases hy | cons => simp
    rw [kAa] at hs0 hsr
    rw [kAa] at hs0 hsr
    rcases E1 with h | ⟨x', y', h1, h2, h3⟩
    ·omega
    ·rw [List.getLast?_eq_getElem?] at hx
     rw [List.head?_eq_getElem?] at hy
     rw [kAz (by omega), ← hA1', hx, Option.some.injEq] at h1
     rw [kBh (by omega), hB1', Nat.sub_self, hy, Option.some.injEq] at h2
     subst h1 h2; exact h3
   have k2 : ∀ x y, B1.getLast? = some x → A2.head? = some y → decide (cm x y < 0) = true := by
    intro x y hx hy
    have hx0 : 0 < B1.length := by cases B1 with | nil => cases hx | cons => simp
    have hy0 : 0 < A2.length := by cases A2 with | nil => cases hy | cons => simp
    rw [kAa] at hs0 hsr
    rw [kAa] at hs0 hsr
    rcases E2 with h | ⟨x', y', h1, h2, h3⟩
    ·omega
    ·rw [List.getLast?_eq_getElem?] at hx
     rw [List.head?_eq_getElem?] at hy
     rw [kBh (by omega), hA1', Nat.sub_self, hy, Option.some.injEq] at h1
     rw [kAz (by omega), ← hB1', hx, Option.some.injEq] at h2
     subst h1 h2; exact h3
   have hsp := split_ok hO hA hB k1 k2
   clear k1 k2 E1 E2 hat1 hat2
   simp only [kAa] at hm hb hll hN hd hA1 hB1 hs0 hdA c1 c2
   clear hsr
   have hlL2 : (P ++ (A1 ++ B1) ++ (A2 ++ B2) ++ S).length = len := by simp only [kAa]; omega
   have hn1 : (P ++ A1).length = P.length + A1.length := kAa
   rcases kCz A1.length with z1 | z1 <;> rcases kCz A2.length with z2 | z2 <;> rcases kCz B1.length with z3 | z3 <;> rcases kCz B2.length with z4 | z4 <;> try (exfalso; omega)
   all_goals
    refine jq ⟨?_⟩
    first
    |refine (rotate_api_Entry hS.holds (P := P ++ A1) (U := A2) (V := B1) (S := B2 ++ S) (by simp only [kAc]) hlL hlen (by omega) (by omega) (by omega) z2 z3).mono ?_
     intro _ w2 hS'
     have hS := hS.call1 hS'
     have e9 : P ++ A1 ++ B1 ++ A2 ++ (B2 ++ S) = P ++ (A1 ++ B1) ++ (A2 ++ B2) ++ S := by simp only [kAc]
     rw [e9] at hS
     refine jq ⟨?_⟩
    |rw [noRot (by omega)] at hS
    first
    |refine (ih hS.holds (P := P) (A := A1) (B := B1) (S := (A2 ++ B2) ++ S) (by simp only [kAc]) hlL2 ha (by omega) (by omega) hA.left hB.left z1 z3 (by omega)).mono ?_
     rintro _ w3 ⟨L1, p1, s1, hS'⟩
     have hS := hS.call1 hS'
     rw [← kAc (P ++ L1) (A2 ++ B2) S] at hS
     refine jq ⟨?_⟩
    |obtain ⟨L1, p1, s1, eL⟩ : ∃ L1, L1.Perm (A1 ++ B1) ∧ Srt (fun x y => decide (cm x y < 0)) L1 ∧ L1 = A1 ++ B1 := ⟨_, List.Perm.refl _, oneSrt (by omega) hA hB, rfl⟩
     rw [← eL] at hS
    have hL1 := p1.length_eq
    rw [kAa] at hL1
    have hlL3 : (P ++ L1 ++ (A2 ++ B2) ++ S).length = len := by simp only [kAa]; omega
    have hn2 : (P ++ L1).length = P.length + L1.length := kAa
    first
    |refine (ih hS.holds (P := P ++ L1) (A := A2) (B := B2) (S := S) (by simp only [kAc]) hlL3 (by omega) (by omega) (by omega) hA.right hB.right z2 z4 (by omega)).mono ?_
     rintro _ w4 ⟨R1, p2, s2, hS'⟩
     have hS := hS.call1 hS'
     refine jq ⟨?_⟩
    |obtain ⟨R1, p2, s2, eR⟩ : ∃ R1, R1.Perm (A2 ++ B2) ∧ Srt (fun x y => decide (cm x y < 0)) R1 ∧ R1 = A2 ++ B2 := ⟨_, List.Perm.refl _, oneSrt' (by omega) hA hB, rfl⟩
     rw [← eR] at hS
    refine ⟨L1 ++ R1, halves_perm p1 p2, s1.app s2 fun x hx y hy => hsp x (p1.mem_iff.1 hx) y (p2.mem_iff.1 hy), ?_⟩
    rw [← kAc P L1 R1]
    exact hS
structure ST_api_Entry where
 bs : List (List EntM)
 R : List EntM
structure SU_api_Entry where
 l : List EntM
 n : Nat
set_option maxRecDepth 4000 in
set_option maxHeartbeats 16000000 in
theorem stable_api_Entry {fc : FuncId} {cm : EntM → EntM → Int} (hO : Ord fun x y => decide (cm x y < 0)) (hcm : ∀ (x y : EntM) (w : World), Cl Tryz.prog fc [entV x, entV y] w fun v w' => v = .int .i64 (cm x y) ∧ St w [] [] w') {w : World} {g cap len : Nat} {l : List EntM} {tail : List Value} (hh : Holds [(g, .cells ⟨l.flatMap entC ++ tail⟩ T_api_Entry (0, 0))] w) (hlL : l.length = len) (hlen : len ≤ 16777216) :
  Cl Tryz.prog f_slices_stableCmpFunc_api_Entry [.slice (some ⟨g, 0, none⟩) len cap, .int .i64 len, .func (.func fc) ⟨[]⟩ ⟨[]⟩] w fun _ w' => ∃ l', l'.Perm l ∧ Srt (fun x y => decide (cm x y < 0)) l' ∧ St w [g] [(g, .cells ⟨l'.flatMap entC ++ tail⟩ T_api_Entry (0, 0))] w' := by
 have hS : St w [g] [(g, .cells ⟨l.flatMap entC ++ tail⟩ T_api_Entry (0, 0))] w := St.enter hh
 refine en_slices_stableCmpFunc_api_Entry rfl ?_
 refine jq ⟨?_⟩
 refine SemW.loop (fun x : ST_api_Entry => [(0, .slice (some ⟨g, 0, none⟩) len cap), (1, .int .i64 len), (2, .func (.func fc) ⟨[]⟩ ⟨[]⟩), (6, .int .i64 20), (7, .int .i64 x.bs.flatten.length), (8, .int .i64 (x.bs.flatten.length + 20))])
  (fun x w' => ((x.bs.flatten ++ x.R).Perm l ∧ Full (fun x y => decide (cm x y < 0)) 20 x.bs) ∧ St w [g] [(g, .cells ⟨(x.bs.flatten ++ x.R).flatMap entC ++ tail⟩ T_api_Entry (0, 0))] w') (fun x => x.R.length) ⟨[], l⟩
  ⟨rfl, rfl, rfl, rfl, rfl, rfl, trivial⟩ ⟨⟨List.Perm.refl _, nofun⟩, hS⟩ ?_
 clear hS
 rintro ⟨bs, R⟩ w1 ⟨⟨hp, hf⟩, hS⟩
 simp only at hp hf hS ⊢
 have hpl := hp.length_eq
 rw [kAa] at hpl
 generalize hbl : bs.flatten.length = q at hpl ⊢
 by_cases hle : 20 ≤ R.length
 ·obtain ⟨X, R', rfl, hX⟩ : ∃ X R', R = X ++ R' ∧ X.length = 20 := ⟨R.take 20, R.drop 20, (kAu _ _).symm, by rw [kAo]; omega⟩
  rw [kAa] at hpl
  refine jq ⟨?_⟩
  refine (insertion_api_Entry hO hcm hS.holds (P := bs.flatten) (M := X) (S := R') (by simp only [kAc]) (hp.length_eq.trans hlL) hlen (by omega) (by omega)).mono ?_
  rintro _ w2 ⟨X', p1, s1, hS'⟩
  have hS := hS.call1 hS'
  have e1 : (bs ++ [X']).flatten = bs.flatten ++ X' := by simp
  have hXl := p1.length_eq
  have e2 : (bs ++ [X']).flatten.length = q + 20 := by rw [e1, kAa]; omega
  refine jq ⟨?_⟩
  refine ⟨⟨bs ++ [X'], R'⟩, ⟨rfl, rfl, rfl, rfl, by show _ = Value.int .i64 _; congr 1; simp only; omega, by show _ = Value.int .i64 _; congr 1; simp only; omega, trivial⟩, ⟨⟨?_, hf.snoc (by omega) s1⟩, ?_⟩, by simp only [kAa]; omega⟩
  ·simp only [e1]
   refine List.Perm.trans ?_ hp
   rw [kAc]
   exact (p1.append_right R').append_left _
  ·simp only [e1]; exact hS
 ·refine jq ⟨?_⟩
  refine (insertion_api_Entry hO hcm hS.holds (P := bs.flatten) (M := R) (S := []) (by rw [kAk]) (hp.length_eq.trans hlL) hlen (by omega) (by omega)).mono ?_
  rintro _ w2 ⟨R1, p1, s1, hS'⟩
  have hS := hS.call1 hS'
  rw [kAk] at hS
  have hRl := p1.length_eq
  have hp1 : (bs.flatten ++ R1).Perm l := (p1.append_left _).trans hp
  have hc : Cks (fun x y => decide (cm x y < 0)) 20 (bs.flatten ++ R1) := ⟨bs, R1, rfl, hf, by omega, s1⟩
  generalize bs.flatten ++ R1 = l1 at hS hc hp1
  clear hRl p1 s1 hpl hbl hf hp hle
  refine jq ⟨?_⟩
  refine SemW.loop (fun x : SU_api_Entry => [(0, .slice (some ⟨g, 0, none⟩) len cap), (1, .int .i64 len), (2, .func (.func fc) ⟨[]⟩ ⟨[]⟩), (6, .int .i64 x.n)])
   (fun x w' => (x.l.Perm l ∧ Cks (fun x y => decide (cm x y < 0)) x.n x.l ∧ 1 ≤ x.n) ∧ St w [g] [(g, .cells ⟨x.l.flatMap entC ++ tail⟩ T_api_Entry (0, 0))] w') (fun x => len - x.n) ⟨l1, 20⟩
   ⟨rfl, rfl, rfl, rfl, trivial⟩ ⟨⟨hp1, hc, by simp only; omega⟩, hS⟩ ?_
  clear hS hp1 hc
  rintro ⟨l2, n⟩ w3 ⟨⟨hp, hc, hn⟩, hS⟩
  simp only at hp hc hn hS ⊢
  have hpl := hp.length_eq
  by_cases hnl : n < len
  ·obtain ⟨bs0, r, rfl, hf0, hr, hsr⟩ := hc
   refine jq ⟨?_⟩
   refine SemW.loop (fun x : List (List EntM) × List (List EntM) => [(0, .slice (some ⟨g, 0, none⟩) len cap), (1, .int .i64 len), (2, .func (.func fc) ⟨[]⟩ ⟨[]⟩), (6, .int .i64 n), (7, .int .i64 x.1.flatten.length), (8, .int .i64 (x.1.flatten.length + 2 * n))])
    (fun x w' => ((x.1.flatten ++ x.2.flatten ++ r).Perm l ∧ Full (fun x y => decide (cm x y < 0)) (2 * n) x.1 ∧ Full (fun x y => decide (cm x y < 0)) n x.2) ∧ St w [g] [(g, .cells ⟨(x.1.flatten ++ x.2.flatten ++ r).flatMap entC ++ tail⟩ T_api_Entry (0, 0))] w') (fun x => x.2.length) ([], bs0)
    ⟨rfl, rfl, rfl, rfl, rfl, by show _ = Value.int .i64 _; congr 1; simp only [kCc, kAq]; omega, trivial⟩ ⟨⟨hp, nofun, hf0⟩, hS⟩ ?_
   clear hS hf0 hp
   rintro ⟨b1, b2⟩ w4 ⟨⟨hp, hf1, hf2⟩, hS⟩
   simp only at hp hf1 hf2 hS ⊢
   have hpl2 := hp.length_eq
   rw [kAa, kAa] at hpl2
   have hlL4 := hp.length_eq.trans hlL
   generalize hbl : b1.flatten.length = q at hpl2 ⊢
   match b2, hf2, hpl2, hp, hS, hlL4 with
   |x :: y :: rest, hf2, hpl2, hp, hS, hlL4 =>
    have hx := hf2.hd
    have hy := hf2.tl.hd
    have hxy : (x :: y :: rest).flatten = x ++ (y ++ rest.flatten) := by simp
    rw [hxy] at hS hp hpl2 hlL4
    rw [kAa, kAa] at hpl2
    refine jq ⟨?_⟩
    refine (merge_api_Entry hO hcm hlen _ hS.holds (P := b1.flatten) (A := x) (B := y) (S := rest.flatten ++ r) (by simp only [kAc]) hlL4 (by omega) (by omega) (by omega) hx.2 hy.2 (by omega) (by omega) (kAd _)).mono ?_
    rintro _ w5 ⟨M, p1, s1, hS'⟩
    have hS := hS.call1 hS'
    have e1 : (b1 ++ [M]).flatten = b1.flatten ++ M := by simp
    have hMl := p1.length_eq
    rw [kAa] at hMl
    have e2 : (b1 ++ [M]).flatten.length = q + 2 * n := by rw [e1, kAa]; omega
    refine jq ⟨?_⟩
    refine ⟨(b1 ++ [M], rest), ⟨rfl, rfl, rfl, rfl, by show _ = Value.int .i64 _; congr 1; simp only; omega, by show _ = Value.int .i64 _; congr 1; simp only; omega, trivial⟩, ⟨⟨?_, hf1.snoc (by omega) s1, hf2.tl.tl⟩, ?_⟩, by simp only [kAe]; omega⟩
    ·simp only [e1]
     refine List.Perm.trans ?_ hp
     rw [kAc, kAc, kAc b1.flatten]
     refine List.Perm.append_left _ ?_
     refine (p1.append_right _).trans (List.Perm.of_eq ?_)
     simp only [kAc]
    ·simp only [e1]
     rw [kAc (b1.flatten ++ M)]
     exact hS
   |[x], hf2, hpl2, hp, hS, hlL4 =>
    have hx := hf2.hd
    have hxy : [x].flatten = x := by simp
    rw [hxy] at hS hp hpl2 hlL4
    by_cases hr0 : 0 < r.length
    ·refine jq ⟨?_⟩
     refine (merge_api_Entry hO hcm hlen _ hS.holds (P := b1.flatten) (A := x) (B := r) (S := []) (by rw [kAk]) hlL4 (by omega) (by omega) (by omega) hx.2 hsr (by omega) (by omega) (kAd _)).mono ?_
     rintro _ w5 ⟨M, p1, s1, hS'⟩
     have hS := hS.call1 hS'
     rw [kAk] at hS
     have hMl := p1.length_eq
     rw [kAa] at hMl
     refine jq ⟨?_⟩
     refine ⟨⟨b1.flatten ++ M, n * 2⟩, ⟨rfl, rfl, rfl, rfl, trivial⟩, ⟨⟨?_, ⟨b1, M, rfl, by rw [kCk]; exact hf1, by simp only; omega, s1⟩, by simp only; omega⟩, hS⟩, by simp only; omega⟩
     refine List.Perm.trans ?_ hp
     rw [kAc]
     exact p1.append_left _
    ·refine jq ⟨?_⟩
     have hr1 : r = [] := kCh.1 (by omega)
     rw [hr1, kAk] at hS hp
     refine ⟨⟨b1.flatten ++ x, n * 2⟩, ⟨rfl, rfl, rfl, rfl, trivial⟩, ⟨⟨hp, ⟨b1, x, rfl, by rw [kCk]; exact hf1, by simp only; omega, hx.2⟩, by simp only; omega⟩, hS⟩, by simp only; omega⟩
   |[], hf2, hpl2, hp, hS, hlL4 =>
    rw [kCc, kAk] at hS hp hlL4
    rw [kCc, kAq] at hpl2
    refine jq ⟨?_⟩
    refine ⟨⟨b1.flatten ++ r, n * 2⟩, ⟨rfl, rfl, rfl, rfl, trivial⟩, ⟨⟨hp, ⟨b1, r, rfl, by rw [kCk]; exact hf1, by simp only; omega, hsr⟩, by simp only; omega⟩, hS⟩, by simp only; omega⟩
  ·refine jq ⟨?_⟩
   refine ⟨l2, hp, hc.all (by omega), hS⟩
theorem sortStable_api_Entry {fc : FuncId} {cm : EntM → EntM → Int} (hO : Ord fun x y => decide (cm x y < 0)) (hcm : ∀ (x y : EntM) (w : World), Cl Tryz.prog fc [entV x, entV y] w fun v w' => v = .int .i64 (cm x y) ∧ St w [] [] w') {w : World} {g cap len : Nat} {l : List EntM} {tail : List Value} (hh : Holds [(g, .cells ⟨l.flatMap entC ++ tail⟩ T_api_Entry (0, 0))] w) (hlL : l.length = len) (hlen : len ≤ 16777216) :
  Cl Tryz.prog f_slices_SortStableFunc_api_Entry_api_Entry [.slice (some ⟨g, 0, none⟩) len cap, .func (.func fc) ⟨[]⟩ ⟨[]⟩] w fun _ w' => ∃ l', l'.Perm l ∧ Srt (fun x y => decide (cm x y < 0)) l' ∧ St w [g] [(g, .cells ⟨l'.flatMap entC ++ tail⟩ T_api_Entry (0, 0))] w' := by
 refine en_slices_SortStableFunc_api_Entry_api_Entry rfl ?_
 refine jq ⟨?_⟩
 refine (stable_api_Entry hO hcm hh hlL hlen).mono ?_
 intro _ w' h
 refine jq ⟨?_⟩
 exact h
theorem insertNil_api_Entry {w : World} {F : Value} : Cl Tryz.prog f_slices_insertionSortCmpFunc_api_Entry [.slice none 0 0, .int .i64 0, .int .i64 0, F] w fun _ w' => St w [] [] w' := by
 have hS := St.start w
 refine en_slices_insertionSortCmpFunc_api_Entry rfl ?_
 refine jq ⟨?_⟩
 refine SemW.loop (fun _ : Unit => [(2, .int .i64 0), (8, .int .i64 1)]) (fun _ w' => St w [] [] w') (fun _ => 0) () ⟨rfl, rfl, trivial⟩ hS ?_
 clear hS
 intro _ w1 hS
 refine jq ⟨?_⟩
 exact hS
theorem stableNil_api_Entry {w : World} {F : Value} : Cl Tryz.prog f_slices_stableCmpFunc_api_Entry [.slice none 0 0, .int .i64 0, F] w fun _ w' => St w [] [] w' := by
 have hS := St.start w
 refine en_slices_stableCmpFunc_api_Entry rfl ?_
 refine jq ⟨?_⟩
 refine SemW.loop (fun _ : Unit => [(0, .slice none 0 0), (1, .int .i64 0), (2, F), (6, .int .i64 20), (7, .int .i64 0), (8, .int .i64 20)]) (fun _ w' => St w [] [] w') (fun _ => 0) () ⟨rfl, rfl, rfl, rfl, rfl, rfl, trivial⟩ hS ?_
 clear hS
 intro _ w1 hS
 refine jq ⟨?_⟩
 refine insertNil_api_Entry.mono ?_
 intro _ w2 hS'
 have hS := hS.call0 hS'
 refine jq ⟨?_⟩
 refine SemW.loop (fun _ : Unit => [(1, .int .i64 0), (6, .int .i64 20)]) (fun _ w' => St w [] [] w') (fun _ => 0) () ⟨rfl, rfl, trivial⟩ hS ?_
 clear hS
 intro _ w3 hS
 refine jq ⟨?_⟩
 exact hS
theorem sortNil_api_Entry {w : World} {F : Value} : Cl Tryz.prog f_slices_SortStableFunc_api_Entry_api_Entry [.slice none 0 0, F] w fun _ w' => St w [] [] w' := by
 refine en_slices_SortStableFunc_api_Entry_api_Entry rfl ?_
 refine jq ⟨?_⟩
 refine stableNil_api_Entry.mono ?_
 intro _ w' h
 refine jq ⟨?_⟩
 exact h
end Go.Proofs.YtkgibdhpijdbfaaGreatDoor
namespace Go.Proofs.YtkgibdhpijdbfaaGreatDoor
open Go Go.Eng Go.Proofs
structure NodeM where
 b : Nat
 e : EntM
 h : Nat
def nxt (l : Nat) : List NodeM → Value
 |[] => .pointer none
 |x :: r => if l < x.h then ptr x.b else nxt l r
def cellN (h : Nat) (r : List NodeM) (l : Nat) : Value := if l < h then nxt l r else .pointer none
def cells8 (f : Nat → Value) : List Value := [f 0, f 1, f 2, f 3, f 4, f 5, f 6, f 7]
theorem cells8_get (f : Nat → Value) (l : Nat) (h : l < 8) : (cells8 f)[l]? = some (f l) := by
 match l, h with
 |0, _ => rfl | 1, _ => rfl | 2, _ => rfl | 3, _ => rfl | 4, _ => rfl | 5, _ => rfl | 6, _ => rfl | 7, _ => rfl
def nodeC (x : NodeM) (r : List NodeM) : List Value := entC x.e ++ cells8 (cellN x.h r)
def nodesH : List NodeM → Heap
 |[] => []
 |x :: r => (x.b, .cells ⟨nodeC x r⟩ T_mem_node (0, 0)) :: nodesH r
def memC (n bytes : Int) (ns : List NodeM) (ha : Option Addr) (hn hc : Nat) (turn : Int) : List Value :=
 [.int .i64 n, .int .i64 bytes, Str [], .int .i64 0, .bool false, Str []] ++ cells8 (fun l => nxt l ns) ++ [.slice ha hn hc, .int .i64 turn]
theorem nodesH_mid : ∀ (A : List NodeM) (x : NodeM) (B : List NodeM), (x.b, .cells ⟨nodeC x B⟩ T_mem_node (0, 0)) ∈ nodesH (A ++ x :: B)
 |[], _, _ => kAt
 |_ :: A, x, B => kAs _ (nodesH_mid A x B)
structure PosN (b : Nat) (A : List NodeM) (l : Nat) (g off : Nat) : Prop where
 out : (A = [] ∧ g = b ∧ off = 2) ∨ ∃ A0 x, A = A0 ++ [x] ∧ g = x.b ∧ off = 0 ∧ l < x.h
theorem PosN.head (b l : Nat) : PosN b [] l b 2 := ⟨.inl ⟨rfl, rfl, rfl⟩⟩
theorem PosN.down {b : Nat} {A : List NodeM} {l k g off : Nat} (h : PosN b A l g off) (hk : k ≤ l) : PosN b A k g off := by
 rcases h.out with h | ⟨A0, x, h1, h2, h3, h4⟩
 ·exact ⟨.inl h⟩
 ·exact ⟨.inr ⟨A0, x, h1, h2, h3, by omega⟩⟩
def lastP (p : Value) (l : Nat) : List NodeM → Value
 |[] => p
 |x :: r => lastP (if l < x.h then ptr x.b else p) l r
theorem lastP_app (p : Value) (l : Nat) : ∀ (A B : List NodeM), lastP p l (A ++ B) = lastP (lastP p l A) l B
 |[], _ => rfl
 |x :: A, B => lastP_app _ l A B
theorem lastP_none (p : Value) (l : Nat) : ∀ {A : List NodeM}, (∀ x ∈ A, ¬ l < x.h) → lastP p l A = p
 |[], _ => rfl
 |x :: A, h => by
  unfold lastP
  rw [if_neg (h x kAt), lastP_none p l fun y hy => h y (kAs _ hy)]
def headV (b : Nat) : Value := .pointer (some ⟨b, 2, none⟩)
theorem PosN.lastP {b : Nat} {A : List NodeM} {l g off : Nat} (h : PosN b A l g off) : lastP (headV b) l A = .pointer (some ⟨g, off, none⟩) := by
 rcases h.out with ⟨rfl, rfl, rfl⟩ | ⟨A0, x, rfl, rfl, rfl, h4⟩
 ·rfl
 ·rw [lastP_app]
  show (if l < x.h then ptr x.b else _) = _
  rw [if_pos h4]
theorem nxt_cases (l : Nat) : ∀ (A B : List NodeM), (∃ C z D, A = C ++ z :: D ∧ (∀ x ∈ C, ¬ l < x.h) ∧ l < z.h ∧ nxt l (A ++ B) = ptr z.b) ∨ ((∀ x ∈ A, ¬ l < x.h) ∧ nxt l (A ++ B) = nxt l B)
 |[], B => .inr ⟨by simp, rfl⟩
 |x :: A, B => by
  by_cases hx : l < x.h
  ·left
   exact ⟨[], x, A, rfl, by simp, hx, by show (if l < x.h then _ else _) = _; rw [if_pos hx]⟩
  ·have e : nxt l (x :: A ++ B) = nxt l (A ++ B) := by show (if l < x.h then _ else nxt l (A ++ B)) = _; rw [if_neg hx]
   rcases nxt_cases l A B with ⟨C, z, D, h1, h2, h3, h4⟩ | ⟨h1, h2⟩
   ·left
    refine ⟨x :: C, z, D, by rw [h1]; rfl, fun y hy => ?_, h3, by rw [e, h4]⟩
    rcases kAf.1 hy with rfl | hy
    ·exact hx
    ·exact h2 y hy
   ·right
    refine ⟨fun y hy => ?_, by rw [e, h2]⟩
    rcases kAf.1 hy with rfl | hy
    ·exact hx
    ·exact h1 y hy
theorem nxt_mem (l : Nat) : ∀ (B : List NodeM), nxt l B = .pointer none ∨ ∃ C z D, B = C ++ z :: D ∧ nxt l B = ptr z.b
 |[] => .inl rfl
 |x :: B => by
  by_cases hx : l < x.h
  ·exact .inr ⟨[], x, B, rfl, by show (if l < x.h then _ else _) = _; rw [if_pos hx]⟩
  ·have e : nxt l (x :: B) = nxt l B := by show (if l < x.h then _ else _) = _; rw [if_neg hx]
   rcases nxt_mem l B with h | ⟨C, z, D, h1, h2⟩
   ·exact .inl (e.trans h)
   ·exact .inr ⟨x :: C, z, D, by rw [h1]; rfl, e.trans h2⟩
section
variable {w0 w : World} {T : List Nat} {H : Heap}
theorem mem_cell (hS : St w0 T H w) {b : Nat} {l : List Value} {t : TypeId} {fz : Nat × Nat} (hm : (b, Obj.cells ⟨l⟩ t fz) ∈ H) {off : Nat} {v : Value} (hv : l[off]? = some v) : w.cell? ⟨b, off, none⟩ = some v := by
 have h := hS.own _ hm
 simp only at h
 simp only [World.cell?, h]
 simpa using hv
structure MemIn (b : Nat) (ns : List NodeM) (H : Heap) : Prop where
 tab : ∃ n bytes ha hn hc turn, (b, Obj.cells ⟨memC n bytes ns ha hn hc turn⟩ T_mem_Table (0, 0)) ∈ H
 nodes : ∀ p ∈ nodesH ns, p ∈ H
theorem MemIn.next {b : Nat} {A R : List NodeM} (hM : MemIn b (A ++ R) H) (hS : St w0 T H w) {l g off : Nat} (hl : l < 8) (hp : PosN b A l g off) : w.cell? ⟨g, off + (4 + l), none⟩ = some (nxt l R) := by
 rcases hp.out with ⟨rfl, rfl, rfl⟩ | ⟨A0, x, rfl, rfl, rfl, h4⟩
 ·obtain ⟨n, bytes, ha, hn, hc, turn, hm⟩ := hM.tab
  refine mem_cell hS hm ?_
  unfold memC
  rw [kAc, kBh (by simp; omega), kAz (by simp [cells8]; omega)]
  rw [show 2 + (4 + l) - _ = l by simp; omega]
  exact cells8_get _ l hl
 ·have hm := hM.nodes _ (by rw [kAc]; exact nodesH_mid A0 x R)
  refine mem_cell hS hm ?_
  unfold nodeC
  rw [kBh (by simp [entC])]
  rw [show 0 + (4 + l) - (entC x.e).length = l by simp [entC], cells8_get _ l hl]
  unfold cellN
  rw [if_pos h4]
theorem MemIn.ent {b : Nat} {A R : List NodeM} {z : NodeM} (hM : MemIn b (A ++ z :: R) H) (hS : St w0 T H w) : ∀ (j : Nat) (v : Value), (entC z.e)[j]? = some v → w.cell? ⟨z.b, j, none⟩ = some v := by
 intro j v hv
 refine mem_cell hS (hM.nodes _ (nodesH_mid A z R)) ?_
 unfold nodeC
 rw [kAz (kBt.1 hv).1]
 exact hv
end
end Go.Proofs.YtkgibdhpijdbfaaGreatDoor
namespace Go.Proofs.YtkgibdhpijdbfaaGreatDoor
open Go Go.Eng Go.Proofs
theorem ldcW {w : World} {a : Addr} {v : Value} (h : w.cell? a = some v) {K : Value → Prop} (hk : K v) : LdC (fun w' => w = w') a K := ⟨⟨v, fun _ e => by subst e; exact h, hk⟩⟩
theorem ldnW {w : World} {n b off : Nat} {cs : List Value} (hn : cs.length = n) (h : ∀ j v, cs[j]? = some v → w.cell? ⟨b, off + j, none⟩ = some v) {K : List Value → Prop} (hk : K cs) : LdN (fun w' => w = w') n b off K := ⟨⟨cs, hn, fun _ e j v hj => by subst e; exact h j v hj, hk⟩⟩
theorem ldcS {w0 : World} {T : List Nat} {H : Heap} {a : Addr} {v : Value} (h : ∀ w, St w0 T H w → w.cell? a = some v) {K : Value → Prop} (hk : K v) : LdC (fun w' => St w0 T H w') a K := ⟨⟨v, fun w hw => h w hw, hk⟩⟩
theorem ldnS {w0 : World} {T : List Nat} {H : Heap} {n b off : Nat} {cs : List Value} (hn : cs.length = n) (h : ∀ w, St w0 T H w → ∀ j v, cs[j]? = some v → w.cell? ⟨b, off + j, none⟩ = some v) {K : List Value → Prop} (hk : K cs) : LdN (fun w' => St w0 T H w') n b off K := ⟨⟨cs, hn, fun w hw j v hj => h w hw j v hj, hk⟩⟩
def outs8 (b k : Nat) (A : List NodeM) : List Value := cells8 fun l => if k ≤ l then lastP (headV b) l A else .pointer none
theorem lastP_one (p : Value) (l : Nat) (hp : p.oneCell' = true) : ∀ A : List NodeM, (lastP p l A).oneCell' = true
 |[] => hp
 |x :: A => by
  unfold lastP
  split
  ·exact lastP_one _ l rfl A
  ·exact lastP_one _ l hp A
theorem outs8_one (b k : Nat) (A : List NodeM) : (outs8 b k A).all Value.oneCell' = true := by
 have h : ∀ l, ((fun l => if k ≤ l then lastP (headV b) l A else Value.pointer none) l).oneCell' = true := fun l => by
  show (if k ≤ l then lastP (headV b) l A else Value.pointer none).oneCell' = true
  split
  ·exact lastP_one _ _ rfl A
  ·rfl
 unfold outs8 cells8
 generalize (fun l => if k ≤ l then lastP (headV b) l A else Value.pointer none) = f at h
 simp only [List.all_cons, List.all_nil, h, Bool.and_true]
theorem outs8_set (b l : Nat) (A : List NodeM) (hl : l < 8) : (outs8 b (l + 1) A).set l (lastP (headV b) l A) = outs8 b l A := by
 apply List.ext_getElem?
 intro j
 rw [List.getElem?_set]
 by_cases hj : j < 8
 ·unfold outs8
  rw [cells8_get _ j hj, cells8_get _ j hj]
  split
  ·rename_i e; subst e
   rw [if_pos (by show l < 8; exact hl), if_pos (kAd _)]
  ·rename_i e
   by_cases h : l ≤ j
   ·rw [if_pos (by omega), if_pos h]
   ·rw [if_neg (by omega), if_neg h]
 ·rw [if_neg (by omega), List.getElem?_eq_none (by show 8 ≤ j; omega), List.getElem?_eq_none (by show 8 ≤ j; omega)]
set_option maxHeartbeats 4000000 in
theorem ahead_spec {w : World} {b : Nat} {A B : List NodeM} {L : Heap} (hM : MemIn b (A ++ B) L) (hh : Holds L w) (x : EntM) (hA : ∀ y ∈ A, elt y.e x = true) (hB : ∀ y ∈ B, elt y.e x = false) :
  Cl Tryz.prog f_mem_Table_ahead [ptr b, entV x] w fun v w' => v = .agg ⟨outs8 b 0 A⟩ ∧ St w (keys L) L w' := by
 have hS := St.enter hh
 generalize hT : keys L = T0 at hS ⊢
 unfold entV entC
 refine en_mem_Table_ahead rfl ?_
 refine jq ⟨?_⟩
 refine hS.al ?_
 intro b3 w1 _ hS
 refine jq ⟨?_⟩
 refine hS.al ?_
 intro b4 w2 _ hS
 refine jq ⟨?_⟩
 refine hS.al ?_
 intro b5 w3 _ hS
 refine jq ⟨?_⟩
 refine SemW.loop (fun (i : Nat × List NodeM × Nat × Nat) => [(0, ptr b), (3, ptr b3), (4, ptr b4), (5, ptr b5), (6, .pointer (some ⟨i.2.2.1, i.2.2.2, none⟩)), (7, .int .i64 ((i.1 : Int) - 1))])
  (fun i w' => i.1 ≤ 8 ∧ (∃ A2, A = i.2.1 ++ A2 ∧ ∀ y ∈ A2, ¬ i.1 < y.h ∨ i.1 = 8) ∧ PosN b i.2.1 i.1 i.2.2.1 i.2.2.2 ∧
   St w T0 ((b5, .cells ⟨outs8 b i.1 A⟩ T_8_Ptr_mem_node (0, 0)) :: (b4, .cells ⟨cells8 fun _ => .pointer none⟩ T_8_Ptr_mem_node (0, 0)) :: (b3, .cells ⟨[Str x.k, .int .i64 x.s, .bool x.d, Str x.v]⟩ T_api_Entry (0, 0)) :: L) w') (fun i => i.1) (8, [], b, 2)
  ⟨rfl, rfl, rfl, rfl, rfl, congrArg (Value.int .i64) (by decide : (7 : Int) = ((8 : Nat) : Int) - 1), trivial⟩ ⟨kAd _, ⟨A, rfl, fun y _ => .inr rfl⟩, PosN.head b 8, hS⟩ ?_
 clear hS
 rintro ⟨k, A1, g, off⟩ w4 ⟨hk, ⟨A2, hA2, hno⟩, hp, hS⟩
 simp only at hk hA2 hno hp hS ⊢
 rcases k with _ | l
 ·obtain ⟨v0, v1, v2, v3, v4, v5, v6, v7, hO⟩ : ∃ v0 v1 v2 v3 v4 v5 v6 v7, outs8 b 0 A = [v0, v1, v2, v3, v4, v5, v6, v7] := ⟨_, _, _, _, _, _, _, _, rfl⟩
  have h1 := outs8_one b 0 A
  rw [hO] at hS h1 ⊢
  (repeat (refine jt ⟨?_⟩; refine hS.st rfl rfl ?_; intro _ hS)); refine jt ⟨?_⟩
  refine hS.st h1 rfl ?_
  intro w5 hS
  (repeat (refine jt ⟨?_⟩; refine hS.st rfl rfl ?_; intro _ hS)); refine jt ⟨?_⟩
  exact ⟨rfl, hS.sub (((kAb _ _).trans (kAb _ _)).trans (kAb _ _))⟩
 ·rw [show ((l + 1 : Nat) : Int) - 1 = (l : Int) by omega]
  have hMc : ∀ {H : Heap}, (∀ p ∈ L, p ∈ H) → MemIn b (A ++ B) H := fun h => ⟨by
   obtain ⟨n, bytes, ha, hn, hc, turn, hm⟩ := hM.tab
   exact ⟨n, bytes, ha, hn, hc, turn, h _ hm⟩, fun p hp => h p (hM.nodes p hp)⟩
  have hMH := hMc (H := (b5, Obj.cells ⟨outs8 b (l + 1) A⟩ T_8_Ptr_mem_node (0, 0)) :: (b4, .cells ⟨cells8 fun _ => .pointer none⟩ T_8_Ptr_mem_node (0, 0)) :: (b3, .cells ⟨[Str x.k, .int .i64 x.s, .bool x.d, Str x.v]⟩ T_api_Entry (0, 0)) :: L) (fun p hp => by simp [hp])
  refine jq ⟨?_⟩
  refine SemW.loop (fun (i : List NodeM × Nat × Nat) => [(0, ptr b), (3, ptr b3), (4, ptr b4), (5, ptr b5), (6, .pointer (some ⟨i.2.1, i.2.2, none⟩)), (7, .int .i64 (l : Int))])
   (fun i w' => (∃ A2, A = i.1 ++ A2) ∧ PosN b i.1 l i.2.1 i.2.2 ∧
    St w T0 ((b5, .cells ⟨outs8 b (l + 1) A⟩ T_8_Ptr_mem_node (0, 0)) :: (b4, .cells ⟨cells8 fun _ => .pointer none⟩ T_8_Ptr_mem_node (0, 0)) :: (b3, .cells ⟨[Str x.k, .int .i64 x.s, .bool x.d, Str x.v]⟩ T_api_Entry (0, 0)) :: L) w') (fun i => A.length - i.1.length) (A1, g, off)
   ⟨rfl, rfl, rfl, rfl, rfl, rfl, trivial⟩ ⟨⟨A2, hA2⟩, hp.down (by omega), hS⟩ ?_
  clear hS hA2 hno hp
  rintro ⟨A1, g, off⟩ w5 ⟨⟨A2, hA2⟩, hp, hS⟩
  simp only at hA2 hp hS ⊢
  have hAB : A ++ B = A1 ++ (A2 ++ B) := by rw [hA2, kAc]
  refine jq ⟨?_⟩
  refine SemW.draw tblOk mixed (fun w' => St w T0 ((b5, .cells ⟨outs8 b (l + 1) A⟩ T_8_Ptr_mem_node (0, 0)) :: (b4, .cells ⟨cells8 fun _ => .pointer none⟩ T_8_Ptr_mem_node (0, 0)) :: (b3, .cells ⟨[Str x.k, .int .i64 x.s, .bool x.d, Str x.v]⟩ T_api_Entry (0, 0)) :: L) w')
   [18, 19, 20] [0, 1, 2, 3, 4, 5, 6, 7, 8, 9, 10, 11, 12, 13, 14, 15, 16, 17, 18, 19, 20] (by kernel_rfl) hS.drew ?_
  have hS := hS.drew
  refine jr ⟨?_⟩
  have hcell : ∀ w', St w T0 ((b5, .cells ⟨outs8 b (l + 1) A⟩ T_8_Ptr_mem_node (0, 0)) :: (b4, .cells ⟨cells8 fun _ => .pointer none⟩ T_8_Ptr_mem_node (0, 0)) :: (b3, .cells ⟨[Str x.k, .int .i64 x.s, .bool x.d, Str x.v]⟩ T_api_Entry (0, 0)) :: L) w' →
    w'.cell? ⟨g, off + 4 + ((l : Int)).toNat * 1, none⟩ = some (nxt l (A2 ++ B)) := fun w' hw => by
   rw [show off + 4 + ((l : Int)).toNat * 1 = off + (4 + l) by omega]
   rw [hAB] at hMH
   exact hMH.next hw (by omega) hp
  refine ldcS hcell ?_
  rcases nxt_cases l A2 B with ⟨C, z, D, h1, h2, h3, h4⟩ | ⟨h1, h2⟩
  ·rw [h4] at hcell ⊢
   have hz : A ++ B = (A1 ++ C) ++ z :: (D ++ B) := by rw [hAB, h1]; simp
   refine jr ⟨?_⟩
   refine ldcS hcell ?_
   refine jr ⟨?_⟩
   refine ldnS (cs := entC z.e) rfl (fun w' hw j v hv => by rw [hz] at hMH; rw [kBl]; exact hMH.ent hw j v hv) ?_
   refine jr ⟨?_⟩
   refine (mem_compare_spec z.e x w5.drew).mono ?_
   rintro _ w6 ⟨rfl, hS'⟩
   have hS := hS.call0 hS'
   refine jr ⟨?_⟩
   refine jq ⟨?_⟩
   refine BrG.pos ((ecmp_lt _ _).2 (hA z (by rw [hA2, h1]; simp))) ?_
   refine jq ⟨?_⟩
   refine ldcW (hcell _ hS) ?_
   refine jq ⟨?_⟩
   exact ⟨(A1 ++ C ++ [z], z.b, 0), ⟨rfl, rfl, rfl, rfl, rfl, rfl, trivial⟩, ⟨⟨D, by rw [hA2, h1]; simp⟩, ⟨.inr ⟨A1 ++ C, z, rfl, rfl, rfl, h3⟩⟩, hS⟩, by rw [hA2, h1]; simp; omega⟩
  ·have h2' := h1
   rw [h2] at hcell ⊢
   have hlast : lastP (headV b) l A = .pointer (some ⟨g, off, none⟩) := by rw [hA2, lastP_app, lastP_none _ _ h1, hp.lastP]
   rcases nxt_mem l B with h3 | ⟨C, z, D, h3, h4⟩
   ·rw [h3] at hcell ⊢
    refine jr ⟨?_⟩
    refine jq ⟨?_⟩
    refine hS.stI (by rfl) (by have : (outs8 b (l + 1) A).length = 8 := rfl; omega) ?_
    intro w7 hS
    have hS := hS
    rw [show 0 + ((l : Int)).toNat * 1 = l by omega, ← hlast, outs8_set b l A (by omega)] at hS
    refine jq ⟨?_⟩
    exact ⟨(l, A1, g, off), ⟨rfl, rfl, rfl, rfl, rfl, rfl, trivial⟩, ⟨by omega, ⟨A2, hA2, fun y hy => .inl (h2' y hy)⟩, hp, hS⟩, by simp⟩
   ·rw [h4] at hcell ⊢
    have hz : A ++ B = (A ++ C) ++ z :: D := by rw [h3]; simp
    refine jr ⟨?_⟩
    refine ldcS hcell ?_
    refine jr ⟨?_⟩
    refine ldnS (cs := entC z.e) rfl (fun w' hw j v hv => by rw [hz] at hMH; rw [kBl]; exact hMH.ent hw j v hv) ?_
    refine jr ⟨?_⟩
    refine (mem_compare_spec z.e x w5.drew).mono ?_
    rintro _ w6 ⟨rfl, hS'⟩
    have hS := hS.call0 hS'
    refine jr ⟨?_⟩
    refine jq ⟨?_⟩
    refine BrG.neg (fun h => by rw [ecmp_lt, hB z (by rw [h3]; simp)] at h; cases h) ?_
    refine jq ⟨?_⟩
    refine hS.stI (by rfl) (by have : (outs8 b (l + 1) A).length = 8 := rfl; omega) ?_
    intro w7 hS
    have hS := hS
    rw [show 0 + ((l : Int)).toNat * 1 = l by omega, ← hlast, outs8_set b l A (by omega)] at hS
    refine jq ⟨?_⟩
    exact ⟨(l, A1, g, off), ⟨rfl, rfl, rfl, rfl, rfl, rfl, trivial⟩, ⟨by omega, ⟨A2, hA2, fun y hy => .inl (h2' y hy)⟩, hp, hS⟩, by simp⟩
end Go.Proofs.YtkgibdhpijdbfaaGreatDoor
namespace Go.Eng
open Go
section
variable {P : Program} {T0 : Tbl}
theorem indexArr (hT : TOk P T0) {t e : TypeId} {i ie : TI} {n : Nat} (hi : tf T0 t = some i) (hk : i.k = .arr n e 1) (hie : tf T0 e = some ie) (hagg : ie.agg = false) {cs : List Value} {j : Nat} (hj : j < n) {v : Value} (hv : cs[j]? = some v) {k : IntKind} {K : Value → Prop} (hK : K v) :
  PureRun P (Instr.index t (.agg ⟨cs⟩) (.int k (j : Int))) K := by
 refine ⟨v, fun w => ?_, hK⟩
 have ht := und_of hT hi; rw [hk] at ht
 obtain ⟨hu, hs⟩ := ht
 cases hinf : P.info? e with
 |none => rw [hinf] at hs; simp at hs
 |some inf =>
  rw [hinf] at hs
  have hs1 : inf.size = 1 := by simpa using hs
  have ha : (isAgg e).run P w = .ok false w := load_one hT hie hagg w
  simp [Instr.index, run_underlying hu, asIntOf, hj, part, ha, sizeOf, typeInfo, hinf, hs1]
  rw [hv]; rfl
theorem St.copy (hT : TOk P T0) {t u e ty : TypeId} {i : TI} (hi : tf T0 t = some i) (hk : i.k = .slice e 1) {w0 w : World} {T : List Nat} {H : Heap} {g off n cap : Nat} {l : List Value} {et : TypeId} {F : Obj → Heap} (hS : St w0 T H w) [hs : Slot H g (.cells ⟨l⟩ et (0, 0)) F]
  {a : Addr} {m c : Nat} {cs : List Value} (hn : cs.length = min m n) (ha : Arr w [] (some a) cs) (h1 : cs.all Value.oneCell' = true) (hfit : off + cs.length ≤ l.length) {K : Value → World → Prop}
  (h : ∀ w', St w0 T (F (.cells ⟨splice l off cs⟩ et (0, 0))) w' → K (.int .i64 cs.length) w') :
  RunG P (Builtin.copy_ ⟨[t, u]⟩ ty ⟨[.slice (some ⟨g, off, none⟩) n cap, .slice (some a) m c]⟩) w K := by
 have ht := und_of hT hi; rw [hk] at ht
 have hmem := hS.mem (b := g)
 refine RunG.of (run_copy_row P w t u ty e g off n cap a m c ⟨l⟩ et cs ht.1 ht.2 hmem hn (fun j v hj => ?_) (by simpa using hfit) (fun v hv => kBd.1 h1 v hv)) ?_
 ·obtain ⟨b', o', h2, -, h3⟩ := ha j v hj
  cases h2
  rw [Addr.add_eq]; exact h3
 ·exact h _ (hS.setRow (l := l))
end
end Go.Eng
namespace Go.Proofs.YtkgibdhpijdbfaaGreatDoor
open Go Go.Eng Go.Proofs
theorem vec_ldC {e : TypeId} {sz : Nat} {a : Option Addr} {n cap : Nat} {xs : List Value} {L H : Heap} {F : Heap → Heap} (hv : Vec e sz a n cap xs L) [Chunk H L F] {w0 : World} {T : List Nat} {g off : Nat} (ha : a = some ⟨g, off, none⟩) {j i : Nat} {v : Value} (hx : xs[j]? = some v) (hi : i = off + j) {K : Value → Prop} (hk : K v) :
  LdC (fun w' => St w0 T H w') ⟨g, i, none⟩ K := ⟨⟨v, fun w' h => by
   obtain ⟨b, o, h1, h2, h3⟩ := (hv.arr h (T' := []) (by simp)) j v hx
   rw [ha] at h1
   simp only [Option.some.injEq, Addr.mk.injEq, and_true] at h1
   obtain ⟨rfl, rfl⟩ := h1
   rw [hi]; exact h3, hk⟩⟩
inductive MemT (b : Nat) (l : List EntM) (adds : Nat) : Heap → Prop where
 |mk (ns : List NodeM) (hl : ns.map (·.e) = l) (hh : ∀ x ∈ ns, 1 ≤ x.h ∧ x.h ≤ 8) (ha : Option Addr) (hn hc : Nat) (hts : List Int) (Lh : Heap) (hv : Vec T_int 1 ha hn hc (hts.map intV) Lh) (hr : ∀ z ∈ hts, 1 ≤ z ∧ z ≤ 8)
   (turn : Nat) (ht : turn ≤ adds) : MemT b l adds ((b, .cells ⟨memC ns.length (szsE l) ns ha hn hc turn⟩ T_mem_Table (0, 0)) :: (nodesH ns ++ Lh))
theorem tower (h : Int) : 1 ≤ 1 + IntKind.i64.wrap ((IntKind.u64.wrap h).tmod 8) ∧ 1 + IntKind.i64.wrap ((IntKind.u64.wrap h).tmod 8) ≤ 8 := by
 obtain ⟨m, h1, h2⟩ : ∃ m : Nat, IntKind.u64.wrap h = (m : Int) ∧ m < 2 ^ 64 := by
  unfold IntKind.wrap; simp only [IntKind.signed, IntKind.bits]
  exact ⟨(h % 2 ^ 64).toNat, by simp; omega, by omega⟩
 have e : (m : Int).tmod 8 = ((m % 8 : Nat) : Int) := (Int.ofNat_tmod m 8).symm
 have h3 : IntKind.i64.wrap ((m % 8 : Nat) : Int) = ((m % 8 : Nat) : Int) := IntWalk.i64_in _ (by omega)
 rw [h1, e, h3]
 omega
set_option maxHeartbeats 4000000 in
theorem MNew_spec {w : World} {a : Option Addr} {cap : Nat} {hs : List Int} (hA : Arr w [] a (hs.map intV)) (hl : hs.length ≤ 1099511627776) :
  Cl Tryz.prog f_mem_New [.slice a hs.length cap] w fun v w' => ∃ b L, v = ptr b ∧ MemT b [] 0 L ∧ St w [] L w' := by
 have hS := St.start w
 refine en_mem_New rfl ?_
 refine jq ⟨?_⟩
 refine hS.al ?_
 intro b w1 _ hS
 refine jq ⟨?_⟩
 refine SemW.loop (fun k : Nat => [(3, ptr b), (8, .slice a hs.length cap), (9, .int .i64 hs.length), (10, .int .i64 k)])
  (fun k w' => k ≤ hs.length ∧ ∃ ha hc hts Lh, Vec T_int 1 ha k hc (hts.map intV) Lh ∧ (∀ z ∈ hts, 1 ≤ z ∧ z ≤ 8) ∧ St w [] ((b, .cells ⟨memC 0 0 [] ha k hc 0⟩ T_mem_Table (0, 0)) :: Lh) w') (fun k => hs.length - k) 0
  ⟨rfl, rfl, rfl, rfl, trivial⟩ ⟨kAg _, none, 0, [], [], Vec.nil, by simp, hS⟩ ?_
 clear hS
 rintro k w2 ⟨hk, ha, hc, hts, Lh, hv, hr, hS⟩
 by_cases hkl : k < hs.length
 ·have hx : (hs.map intV)[k]? = some (intV hs[k]) := by simp [hkl]
  obtain ⟨g, off, rfl, -, -⟩ := hA.get (j := k) (by simpa using hkl)
  refine jq ⟨?_⟩
  refine Arr.ldc (j := k) hS hA hx (by omega) ?_
  unfold memC cells8 at hS
  (repeat (refine jt ⟨?_⟩; refine hS.st rfl rfl ?_; intro _ hS)); refine jt ⟨?_⟩
  refine IntG.wr ?_
  have htw := tower hs[k]
  generalize IntKind.i64.wrap ((IntKind.u64.wrap hs[k]).tmod 8) = z at htw ⊢
  refine jq ⟨?_⟩
  refine hS.al ?_
  intro r w3 _ hS
  refine jq ⟨?_⟩
  refine St.app (sz := 1) (m := 1) tblOk rfl rfl rfl rfl hS hv (news := [intV (1 + z)]) rfl (by have := hS.arr (b := r) (T' := []) (by simp); exact this) rfl (by show (_ + _) * 8 ≤ _; omega) (by omega) ?_
  intro a2 c2 L2 w4 hv2 hS
  have hS := hS.sub (kAb _ _)
  (repeat (refine jt ⟨?_⟩; refine hS.st rfl rfl ?_; intro _ hS)); refine jt ⟨?_⟩
  refine ⟨k + 1, ⟨rfl, rfl, rfl, rfl, trivial⟩, ⟨by omega, a2, c2, hts ++ [1 + z], L2, by rw [kAi]; exact hv2, ?_, hS⟩, by omega⟩
  intro y hy
  rcases kAl.1 hy with hy | hy
  ·exact hr y hy
  ·simp at hy; omega
 ·refine jq ⟨?_⟩
  obtain rfl : k = hs.length := by omega
  refine jq ⟨?_⟩
  exact ⟨b, _, rfl, MemT.mk [] rfl (by simp) ha _ hc hts Lh hv hr 0 (kAd _), hS⟩
set_option maxHeartbeats 2000000 in
theorem MLen_spec {w : World} {b adds : Nat} {l : List EntM} {L : Heap} (hM : MemT b l adds L) (hh : Holds L w) : Cl Tryz.prog f_mem_counts_Len [ptr b] w fun v w' => v = .int .i64 l.length ∧ St w (keys L) L w' := by
 have hS := St.enter hh
 obtain ⟨ns, hl, hhs, ha, hn, hc, hts, Lh, hv, hr, turn, ht⟩ := hM
 refine en_mem_counts_Len rfl ?_
 unfold memC cells8 at hS ⊢
 (repeat (refine jt ⟨?_⟩; refine hS.st rfl rfl ?_; intro _ hS)); refine jt ⟨?_⟩
 exact ⟨by rw [← hl, kAv], hS⟩
theorem height_spec {w : World} {b n adds : Nat} {bytes : Int} {ns : List NodeM} {ha : Option Addr} {hn hc : Nat} {hts : List Int} {Lh : Heap} (hv : Vec T_int 1 ha hn hc (hts.map intV) Lh) (hr : ∀ z ∈ hts, 1 ≤ z ∧ z ≤ 8) {turn : Nat} (ht : turn ≤ adds) (hb : adds ≤ 4611686018427387904)
  (hh : Holds ((b, .cells ⟨memC n bytes ns ha hn hc turn⟩ T_mem_Table (0, 0)) :: Lh) w) :
  Cl Tryz.prog f_mem_Table_height [ptr b] w fun v w' => ∃ (h turn' : Nat), v = .int .i64 h ∧ 1 ≤ h ∧ h ≤ 8 ∧ turn' ≤ adds + 1 ∧ St w (b :: keys Lh) ((b, .cells ⟨memC n bytes ns ha hn hc turn'⟩ T_mem_Table (0, 0)) :: Lh) w' := by
 have hS := St.enter hh
 have hlen := hv.len
 refine en_mem_Table_height rfl ?_
 unfold memC cells8 at hS ⊢
 by_cases h0 : hn = 0
 ·subst h0
  (repeat (refine jt ⟨?_⟩; refine hS.st rfl rfl ?_; intro _ hS)); refine jt ⟨?_⟩
  exact ⟨1, turn, rfl, by omega, by omega, by omega, hS⟩
 ·(repeat (refine jt ⟨?_⟩; refine hS.st rfl rfl ?_; intro _ hS)); refine jt ⟨?_⟩
  have hlt : turn % hn < hts.length := by
   have := kBn turn (show 0 < hn by omega)
   rw [kAv] at hlen; omega
  have hx : (hts.map intV)[turn % hn]? = some (intV hts[turn % hn]) := by simp [hlt]
  obtain ⟨g, off, rfl, -, -⟩ := (hv.arr hS (T' := []) (by simp)).get (j := turn % hn) (by simpa using hlt)
  refine SemW.draw tblOk mixed (fun w' => St w _ _ w') [] [0, 1, 2, 3, 4, 5, 6, 7, 8, 9, 10, 11, 12, 13, 14, 15, 16] (by kernel_rfl) hS.drew ?_
  have hS := hS.drew
  refine jr ⟨?_⟩
  rw [show ((turn : Int)).tmod (hn : Int) = ((turn % hn : Nat) : Int) from (Int.ofNat_tmod turn hn).symm]
  have hmod := kBn turn (show 0 < hn by omega)
  generalize turn % hn = q at hlt hx hmod ⊢
  have hz := hr hts[q] (kAx hlt)
  refine jr ⟨?_⟩
  refine vec_ldC hv rfl (j := q) hx (by omega) ?_
  unfold intV
  generalize hts[q] = z at hz
  obtain ⟨h, rfl⟩ : ∃ h : Nat, z = (h : Int) := ⟨z.toNat, by omega⟩
  refine jr ⟨?_⟩
  (repeat (refine jt ⟨?_⟩; refine hS.st rfl rfl ?_; intro _ hS)); refine jt ⟨?_⟩
  exact ⟨h, turn + 1, rfl, by omega, by omega, by omega, hS⟩
theorem mlist_spec {w : World} {b : Nat} {A R : List NodeM} {H : Heap} (hM : MemIn b (A ++ R) H) (hh : Holds H w) (hlen : (A ++ R).length ≤ 1099511627776) (hh1 : ∀ x ∈ R, 1 ≤ x.h) :
  Cl Tryz.prog f_mem_list [nxt 0 R] w fun v w' => ∃ a cap L, v = .slice a R.length cap ∧ Vec T_api_Entry 4 a R.length cap (R.flatMap fun x => entC x.e) L ∧ St w [] L w' := by
 have hS := St.start w
 have hE := St.enter hh
 have hnx : ∀ {x : NodeM} {r : List NodeM}, 1 ≤ x.h → nxt 0 (x :: r) = ptr x.b := fun h => by show (if _ then _ else _) = _; rw [if_pos (by omega)]
 refine en_mem_list rfl ?_
 refine jq ⟨?_⟩
 refine SemW.loop (fun (i : List NodeM × List NodeM × Option Addr × Nat) => [(0, nxt 0 i.2.1), (3, .slice i.2.2.1 i.1.length i.2.2.2)])
  (fun i w' => i.1 ++ i.2.1 = R ∧ ∃ L, Vec T_api_Entry 4 i.2.2.1 i.1.length i.2.2.2 (i.1.flatMap fun x => entC x.e) L ∧ St w [] L w') (fun i => i.2.1.length) ([], R, none, 0)
  ⟨rfl, rfl, trivial⟩ ⟨rfl, [], Vec.nil, hS⟩ ?_
 clear hS
 rintro ⟨P, Q, a, cap⟩ w1 ⟨hPQ, L, hv, hS⟩
 simp only at hPQ hv hS ⊢
 cases Q with
 |nil =>
  rw [kAk] at hPQ
  subst hPQ
  refine jq ⟨?_⟩
  exact ⟨a, cap, L, rfl, hv, hS⟩
 |cons z Q =>
  have hz : 1 ≤ z.h := hh1 z (by rw [← hPQ]; simp)
  rw [hnx hz]
  have hM' : MemIn b ((A ++ P) ++ z :: Q) H := by rw [kAc, hPQ]; exact hM
  have hent : ∀ (j : Nat) (v : Value), (entC z.e)[j]? = some v → w1.cell? ⟨z.b, j, none⟩ = some v := fun j v hj => hS.oldCell (by simp) (hM'.ent hE j v hj)
  refine jq ⟨?_⟩
  refine ldnW (cs := [Str z.e.k, .int .i64 z.e.s, .bool z.e.d, Str z.e.v]) rfl (fun j v hj => by rw [kBl]; exact hent j v hj) ?_
  have hlP : P.length + (z :: Q).length = R.length := by rw [← hPQ]; simp
  rw [kAa] at hlen
  simp only [kAe] at hlP
  refine jq ⟨?_⟩
  refine hS.al ?_
  intro r w2 _ hS
  refine jq ⟨?_⟩
  refine St.app (sz := 4) (m := 1) tblOk rfl rfl rfl rfl hS hv (news := entC z.e) rfl (by have := hS.arr (b := r) (T' := []) (by simp); exact this) rfl (by show (_ + _) * 48 ≤ _; omega) (by omega) ?_
  intro a2 c2 L2 w3 hv2 hS
  have hS := hS.sub (kAb _ _)
  have hnext : w3.cell? ⟨z.b, 0 + (4 + 0), none⟩ = some (nxt 0 Q) := by
   have hp : PosN b ((A ++ P) ++ [z]) 0 z.b 0 := ⟨.inr ⟨A ++ P, z, rfl, rfl, rfl, by omega⟩⟩
   have hM2 : MemIn b (((A ++ P) ++ [z]) ++ Q) H := by rw [show ((A ++ P) ++ [z]) ++ Q = (A ++ P) ++ z :: Q by simp]; exact hM'
   exact hS.oldCell (by simp) (hM2.next hE (by omega) hp)
  refine jq ⟨?_⟩
  refine ldcW hnext ?_
  refine jq ⟨?_⟩
  exact ⟨(P ++ [z], Q, a2, c2), ⟨rfl, by rw [kAa]; rfl, trivial⟩, ⟨by rw [← hPQ]; simp, L2, by
   rw [kCm, kAa]; exact hv2, hS⟩, by simp⟩
theorem mfrom_spec {w : World} {b : Nat} {A B : List NodeM} {L : Heap} (hM : MemIn b (A ++ B) L) (hh : Holds L w) (x : EntM) (hA : ∀ y ∈ A, elt y.e x = true) (hB : ∀ y ∈ B, elt y.e x = false) (h1 : ∀ y ∈ A ++ B, 1 ≤ y.h) :
  Cl Tryz.prog f_mem_Table_from [ptr b, entV x] w fun v w' => v = nxt 0 B ∧ St w (keys L) L w' := by
 have hS := St.enter hh
 generalize hT : keys L = T0 at hS ⊢
 have hspec := fun {w : World} (hh : Holds L w) => ahead_spec hM hh x hA hB
 unfold entV entC at hspec ⊢
 refine en_mem_Table_from rfl ?_
 refine jq ⟨?_⟩
 refine hS.al ?_
 intro b3 w1 _ hS
 (repeat (refine jt ⟨?_⟩; refine hS.st rfl rfl ?_; intro _ hS)); refine jt ⟨?_⟩
 refine (hspec (hS.part (L := L))).mono ?_
 rintro _ w2 ⟨rfl, hS'⟩
 have hS := hS.call (L := L) hS'
 have hpos : ∃ g off, PosN b A 0 g off := by
  rcases kDg A with rfl | ⟨A0, y, rfl⟩
  ·exact ⟨b, 2, PosN.head b 0⟩
  ·exact ⟨y.b, 0, ⟨.inr ⟨A0, y, by simp, rfl, rfl, by have := h1 y (by simp); omega⟩⟩⟩
 obtain ⟨g, off, hp⟩ := hpos
 have hM2 : MemIn b (A ++ B) ((b3, .cells ⟨[Str x.k, .int .i64 x.s, .bool x.d, Str x.v]⟩ T_api_Entry (0, 0)) :: L) := ⟨by
  obtain ⟨n, bytes, ha, hn, hc, turn, hm⟩ := hM.tab
  exact ⟨n, bytes, ha, hn, hc, turn, kAs _ hm⟩, fun p hp => kAs _ (hM.nodes p hp)⟩
 have hcell := hM2.next hS (l := 0) (by omega) hp
 refine indexArr tblOk rfl rfl rfl rfl (cs := outs8 b 0 A) (j := 0) (by decide) (v := lastP (headV b) 0 A) rfl ?_
 rw [hp.lastP]
 refine jq ⟨?_⟩
 refine ldcW hcell ?_
 refine jq ⟨?_⟩
 exact ⟨rfl, hS.sub (kAb _ _)⟩
theorem cutN (k : Bytes) (t : Int) : ∀ (ns : List NodeM), ∃ A B, ns = A ++ B ∧ A.map (·.e) = toE k t (ns.map (·.e)) ∧ B.map (·.e) = fromE k t (ns.map (·.e))
 |[] => ⟨[], [], rfl, rfl, rfl⟩
 |x :: ns => by
  obtain ⟨A, B, h1, h2, h3⟩ := cutN k t ns
  by_cases h : eltP x.e k t = true
  ·refine ⟨x :: A, B, by rw [h1]; rfl, ?_, ?_⟩
   ·simp only [kAh, toE, h, if_true, h2]
   ·simp only [kAh, fromE, h, if_true, h3]
  ·refine ⟨[], x :: ns, rfl, ?_, ?_⟩
   ·simp only [kAh, toE, h, kC, if_false, Bool.false_eq_true]
   ·simp only [kAh, fromE, h, if_false, Bool.false_eq_true]
theorem cut_ahead {k : Bytes} {t : Int} {l : List EntM} {A : List NodeM} (h : A.map (·.e) = toE k t l) (x : EntM) (hk : x.k = k) (ht : x.s = t) : ∀ y ∈ A, elt y.e x = true := fun y hy => by
 unfold elt; rw [hk, ht]
 exact toE_lt k t l y.e (by rw [← h]; exact kAw hy)
theorem cut_behind {k : Bytes} {t : Int} {l : List EntM} (hr : Rise l) {B : List NodeM} (h : B.map (·.e) = fromE k t l) (x : EntM) (hk : x.k = k) (ht : x.s = t) : ∀ y ∈ B, elt y.e x = false := fun y hy => by
 unfold elt; rw [hk, ht]
 exact fromE_ge hr y.e (by rw [← h]; exact kAw hy)
theorem MemT.in {b adds : Nat} {l : List EntM} {L : Heap} (h : MemT b l adds L) : ∃ ns : List NodeM, ns.map (·.e) = l ∧ (∀ x ∈ ns, 1 ≤ x.h) ∧ MemIn b ns L := by
 obtain ⟨ns, hl, hhs, ha, hn, hc, hts, Lh, hv, hr, turn, ht⟩ := h
 exact ⟨ns, hl, fun x hx => (hhs x hx).1, ⟨_, _, _, _, _, _, kAt⟩, fun p hp => kAs _ (kBm _ hp)⟩
theorem ents_flat (ns : List NodeM) : (ns.flatMap fun x => entC x.e) = (ns.map (·.e)).flatMap entC := by rw [List.flatMap_map]
set_option maxHeartbeats 2000000 in
theorem MAll_spec {w : World} {b adds : Nat} {l : List EntM} {L : Heap} (hM : MemT b l adds L) (hh : Holds L w) (hl : l.length ≤ 1099511627776) :
  Cl Tryz.prog f_mem_Table_All [ptr b] w fun v w' => ∃ a cap L2, v = .slice a l.length cap ∧ Vec T_api_Entry 4 a l.length cap (l.flatMap entC) L2 ∧ St w [] L2 w' := by
 have hS := St.enter hh
 obtain ⟨ns, hns, h1, hin⟩ := hM.in
 have hcell := MemIn.next (A := []) (R := ns) hin hS (l := 0) (by omega) (PosN.head b 0)
 have hls := fun {w : World} (hh : Holds L w) => mlist_spec (A := []) (R := ns) hin hh (by rw [kBj, ← kAv (f := (·.e)), hns]; exact hl) h1
 have hlen : ns.length = l.length := by rw [← hns, kAv]
 rw [ents_flat, hns, hlen] at hls
 refine en_mem_Table_All rfl ?_
 refine jq ⟨?_⟩
 refine ldcW hcell ?_
 refine jq ⟨?_⟩
 refine (hls hh).mono ?_
 rintro _ w1 ⟨a, cap, L2, rfl, hv, hS2⟩
 refine jq ⟨?_⟩
 exact ⟨a, cap, L2, rfl, hv, hS2⟩
set_option maxHeartbeats 2000000 in
theorem MFrom_spec {w : World} {b adds : Nat} {l : List EntM} {L : Heap} (hM : MemT b l adds L) (hh : Holds L w) (hr : Rise l) (hl : l.length ≤ 1099511627776) (k : Bytes) :
  Cl Tryz.prog f_mem_Table_From [ptr b, Str k] w fun v w' => ∃ a cap L2, v = .slice a (fromE k 9223372036854775807 l).length cap ∧ Vec T_api_Entry 4 a (fromE k 9223372036854775807 l).length cap ((fromE k 9223372036854775807 l).flatMap entC) L2 ∧ St w (keys L) (L2 ++ L) w' := by
 obtain ⟨ns, hns, h1, hin⟩ := hM.in
 obtain ⟨A, B, hab, hA, hB⟩ := cutN k 9223372036854775807 ns
 rw [hns] at hA hB
 rw [hab] at hin h1
 have hlA : (A ++ B).length ≤ 1099511627776 := by rw [← hab, ← kAv (f := (·.e)), hns]; exact hl
 have hls := fun {w : World} (hh : Holds L w) => mlist_spec (A := A) (R := B) hin hh hlA (fun x hx => h1 x (kBp _ hx))
 have hlen : B.length = (fromE k 9223372036854775807 l).length := by rw [← hB, kAv]
 rw [ents_flat, hB, hlen] at hls
 have hfr := mfrom_spec hin hh ⟨k, 9223372036854775807, false, []⟩ (cut_ahead hA _ rfl rfl) (cut_behind hr hB _ rfl rfl) h1
 unfold entV entC at hfr
 refine en_mem_Table_From rfl ?_
 refine jq ⟨?_⟩
 refine hfr.mono ?_
 rintro _ w1 ⟨rfl, hS⟩
 refine jq ⟨?_⟩
 refine (hls hS.holds).mono ?_
 rintro _ w2 ⟨a, cap, L2, rfl, hv, hS2⟩
 have hS := hS.callNew hS2
 refine jq ⟨?_⟩
 exact ⟨a, cap, L2, rfl, hv, hS⟩
def entO (o : Option EntM) : Value := .tuple ⟨[entV (o.getD ⟨[], 0, false, []⟩), .bool o.isSome]⟩
set_option maxHeartbeats 2000000 in
theorem MGet_spec {w : World} {b adds : Nat} {l : List EntM} {L : Heap} (hM : MemT b l adds L) (hh : Holds L w) (hr : Rise l) (k : Bytes) (t : Int) :
  Cl Tryz.prog f_mem_Table_Get [ptr b, Str k, .int .i64 t] w fun v w' => v = entO (getE l k t) ∧ St w (keys L) L w' := by
 obtain ⟨ns, hns, h1, hin⟩ := hM.in
 obtain ⟨A, B, hab, hA, hB⟩ := cutN k t ns
 rw [hns] at hA hB
 rw [hab] at hin h1
 have hfr := fun {w : World} (hh : Holds L w) => mfrom_spec hin hh ⟨k, t, false, []⟩ (cut_ahead hA _ rfl rfl) (cut_behind hr hB _ rfl rfl) h1
 unfold entV entC at hfr
 have hS := St.enter hh
 generalize hT : keys L = T0 at hS ⊢
 unfold getE
 rw [← hB]
 refine en_mem_Table_Get rfl ?_
 refine jq ⟨?_⟩
 refine hS.al ?_
 intro b6 w1 _ hS
 refine jq ⟨?_⟩
 refine (hfr (hS.part (L := L))).mono ?_
 rintro _ w2 ⟨rfl, hS'⟩
 have hS := hS.call (L := L) hS'
 cases B with
 |nil =>
  (repeat (refine jt ⟨?_⟩; refine hS.st rfl rfl ?_; intro _ hS)); refine jt ⟨?_⟩
  exact ⟨rfl, hS.sub (kAb _ _)⟩
 |cons z B =>
  have hnx : nxt 0 (z :: B) = ptr z.b := by show (if _ then _ else _) = _; rw [if_pos (by have := h1 z (by simp); omega)]
  rw [hnx]
  have hent : ∀ (j : Nat) (v : Value), (entC z.e)[j]? = some v → w2.cell? ⟨z.b, j, none⟩ = some v := fun j v hj => by
   have hin2 : MemIn b (A ++ z :: B) ((b6, .cells ⟨[Str [], .int .i64 0, .bool false, Str []]⟩ T_api_Entry (0, 0)) :: L) := ⟨by
    obtain ⟨n, bytes, ha, hn, hc, turn, hm⟩ := hin.tab
    exact ⟨n, bytes, ha, hn, hc, turn, kAs _ hm⟩, fun p hp => kAs _ (hin.nodes p hp)⟩
   exact hin2.ent hS j v hj
  simp only [kAh]
  refine jq ⟨?_⟩
  refine ldcW (v := Str z.e.k) (hent 0 _ rfl) ?_
  refine jq ⟨?_⟩
  by_cases hk : z.e.k = k
  ·rw [if_pos hk]
   refine jq ⟨?_⟩
   refine ldnW (cs := [Str z.e.k, .int .i64 z.e.s, .bool z.e.d, Str z.e.v]) rfl (fun j v hj => by rw [kBl]; exact hent j v hj) ?_
   (repeat (refine jt ⟨?_⟩; refine hS.st rfl rfl ?_; intro _ hS)); refine jt ⟨?_⟩
   exact ⟨rfl, hS.sub (kAb _ _)⟩
  ·rw [if_neg hk]
   (repeat (refine jt ⟨?_⟩; refine hS.st rfl rfl ?_; intro _ hS)); refine jt ⟨?_⟩
   exact ⟨rfl, hS.sub (kAb _ _)⟩
abbrev RecM := Bytes × Bytes
def opC (r : RecM) : List Value := [Str r.1, .bool false, Str r.2]
theorem opC_len (r : RecM) : (opC r).length = 3 := rfl
def LessR (r q : RecM) : Prop := Op.bytesLess r.1 q.1 = true
theorem recsC_at (l : List RecM) (k : Nat) (hk : k < l.length) : ((l.flatMap opC).drop (k * 3)).take 3 = opC l[k] := by
 induction l generalizing k with
 |nil => simp at hk
 |cons p ps ih =>
  cases k with
  |zero => simp only [Nat.zero_mul, List.drop_zero, kBo, kDb]; exact kCa (opC_len p)
  |succ k =>
   rw [kBo, show (k + 1) * 3 = (opC p).length + k * 3 by rw [opC_len]; omega, List.drop_length_add_append]
   exact ih k (by simpa using hk)
theorem recsC_key (l : List RecM) (k : Nat) (hk : k < l.length) : (l.flatMap opC)[k * 3]? = some (Str l[k].1) := by
 have h := recsC_at l k hk
 have h2 := congrArg (fun x => x[0]?) h
 simp only [kCw, kCv, Nat.add_zero] at h2
 simpa [opC] using h2
end Go.Proofs.YtkgibdhpijdbfaaGreatDoor
namespace Go.Eng
open Go
section
variable {P : Program} {T0 : Tbl}
def PartIs (P : Program) (t : TypeId) (xs : List Value) (off : Nat) (v : Value) : Prop := ∀ w, (part t ⟨xs⟩ off).run P w = .ok v w
theorem PartIs.one (hT : TOk P T0) {t : TypeId} {i : TI} (hi : tf T0 t = some i) (ha : i.agg = false) {xs : List Value} {off : Nat} {v : Value} (hx : xs[off]? = some v) : PartIs P t xs off v := by
 intro w
 have h1 := load_one hT hi ha w
 simp [part, h1]
 rw [hx]; rfl
theorem PartIs.agg (hT : TOk P T0) {t : TypeId} {i : TI} (hi : tf T0 t = some i) (ha : i.agg = true) {xs vs : List Value} {off : Nat} (hx : (xs.drop off).take i.size = vs) : PartIs P t xs off (.agg ⟨vs⟩) := by
 intro w
 have h1 := load_agg hT hi ha w
 have h2 := size_of hT hi w
 simp [part, h1, h2]
 exact hx
def EqV (n : Nat) (P : Program) (t : TypeId) (a b : Value) (r : Bool) : Prop := ∀ k w, (Op.equalIn (k + n) t a b).run P w = .ok r w
def fieldRows (fs : List Field) : List (Bool × TypeId × Nat) := fs.map fun f => (decide (f.name ≠ "_"), f.type, f.offset)
def EqFs (n : Nat) (P : Program) (xs ys : List Value) (d : List (TypeId × Nat)) (r : Bool) : Prop :=
 ∀ (fs : List Field), fieldRows fs = d.map (fun x => (true, x.1, x.2)) → ∀ k w, (Op.eqFields (k + n) ⟨xs⟩ ⟨ys⟩ fs).run P w = .ok r w
theorem EqV.int {n : Nat} (hT : TOk P T0) {t : TypeId} {i : TI} (hi : tf T0 t = some i) {kk k : IntKind} (hk : i.k = .int kk) (a b : Int) : EqV (n + 1) P t (.int k a) (.int k b) (decide (a = b)) := by
 intro d w
 have h := und_of hT hi; rw [hk] at h
 rw [show decide (a = b) = (a == b) by rw [Bool.eq_iff_iff]; simp]
 exact run_equalIn_int w (d + n) t k kk a b h
theorem EqV.bool {n : Nat} (hT : TOk P T0) {t : TypeId} {i : TI} (hi : tf T0 t = some i) (hk : i.k = .bool) (a b : Bool) : EqV (n + 1) P t (.bool a) (.bool b) (decide (a = b)) := by
 intro d w
 have h := und_of hT hi; rw [hk] at h
 rw [show decide (a = b) = (a == b) by rw [Bool.eq_iff_iff]; simp]
 exact run_equalIn_bool' w (d + n) t a b h
theorem EqV.str {n : Nat} (hT : TOk P T0) {t : TypeId} {i : TI} (hi : tf T0 t = some i) (hk : i.k = .str) (a b : List UInt8) : EqV (n + 1) P t (Str a) (Str b) (decide (a = b)) := by
 intro d w
 have h := und_of hT hi; rw [hk] at h
 rw [show decide (a = b) = ((⟨⟨a⟩⟩ : ByteArray).toList == (⟨⟨b⟩⟩ : ByteArray).toList) by rw [bytes_toList, bytes_toList, Bool.eq_iff_iff]; simp]
 exact run_equalIn_string w (d + n) t _ _ h
theorem EqFs.nil {n : Nat} {xs ys : List Value} : EqFs n P xs ys [] true := by
 intro fs h k w
 cases fs with
 |nil => simp [Op.eqFields]
 |cons f fs => simp [fieldRows] at h
theorem EqFs.cons {n : Nat} {xs ys : List Value} {t : TypeId} {off : Nat} {d : List (TypeId × Nat)} {a b : Value} {r1 r2 : Bool} (h1 : PartIs P t xs off a) (h2 : PartIs P t ys off b) (h3 : EqV n P t a b r1) (h4 : EqFs n P xs ys d r2) :
  EqFs n P xs ys ((t, off) :: d) (r1 && r2) := by
 intro fs h k w
 cases fs with
 |nil => simp [fieldRows] at h
 |cons f fs =>
  simp only [fieldRows, kAh, List.cons.injEq, Prod.mk.injEq, decide_eq_true_eq] at h
  obtain ⟨⟨hn, rfl, rfl⟩, h⟩ := h
  have e := h4 fs h k w
  simp only [Op.eqFields, if_pos hn, Sem.run_bind, h1 w, h2 w, h3 k w, Result.andThen_ok, Sem.run_ite]
  cases r1 with
  |false => simp
  |true => simp [e]
theorem EqV.struct {n : Nat} {t : TypeId} {d : List (TypeId × Nat)} (ht : P.underlying t = some (.struct (P.fieldsOf t))) (hp : P.stoodInHeld t = false) (hd : fieldRows (P.fieldsOf t).toList = d.map (fun x => (true, x.1, x.2))) {xs ys : List Value} {r : Bool} (h : EqFs n P xs ys d r) :
  EqV (n + 1) P t (.agg ⟨xs⟩) (.agg ⟨ys⟩) r := by
 intro k w
 rw [show k + (n + 1) = (k + n) + 1 by omega, run_equalIn_struct w (k + n) t _ _ ht hp]
 exact h _ hd k w
theorem neqAgg {n : Nat} {t : TypeId} {x y : Operand} {xs ys : List Value} {r : Bool} (hn : n ≤ 10000) (hm : P.eqGuardType P.depth t = false) (h : EqV n P t (.agg ⟨xs⟩) (.agg ⟨ys⟩) r) {K : Value → Prop} (hK : K (.bool (!r))) :
  PureRun P (do eqGuard .neq t x y (.agg ⟨xs⟩) (.agg ⟨ys⟩); binOp .neq t (.agg ⟨xs⟩) (.agg ⟨ys⟩)) K := by
 refine ⟨_, fun w => ?_, hK⟩
 have h1 := run_eqGuard_agg (P := P) w .neq t x y ⟨xs⟩ ⟨ys⟩ hm
 have h2 := h (10000 - n) w
 rw [show 10000 - n + n = 10000 by omega] at h2
 simp only [Sem.run_bind, h1, Result.andThen_ok, run_neq_struct, h2]
end
end Go.Eng
namespace Go.Proofs.YtkgibdhpijdbfaaGreatDoor
open Go Go.Eng Go.Proofs
abbrev OpM := Bytes × Bool × Bytes
def rop (r : RecM) : OpM := (r.1, false, r.2)
def opDC (o : OpM) : List Value := [Str o.1, .bool o.2.1, Str o.2.2]
theorem opDC_rop (r : RecM) : opDC (rop r) = opC r := rfl
theorem opsC_len (l : List OpM) : (l.flatMap opDC).length = 3 * l.length := by
 induction l with
 |nil => rfl
 |cons p ps ih => rw [kBo, kAa, ih, kAe]; show 3 + _ = _; omega
theorem opsC_at (l : List OpM) (k : Nat) (hk : k < l.length) : ((l.flatMap opDC).drop (k * 3)).take 3 = opDC l[k] := by
 induction l generalizing k with
 |nil => simp at hk
 |cons p ps ih =>
  cases k with
  |zero => simp only [Nat.zero_mul, List.drop_zero, kBo, kDb]; exact kCa rfl
  |succ k =>
   rw [kBo, show (k + 1) * 3 = (opDC p).length + k * 3 by show _ = 3 + _; omega, List.drop_length_add_append]
   exact ih k (by simpa using hk)
theorem ropsC (l : List RecM) : (l.map rop).flatMap opDC = l.flatMap opC := by
 induction l with
 |nil => rfl
 |cons p ps ih => rw [kAh, kBo, kBo, ih]; rfl
theorem eqOpD (r q : OpM) : EqV 3 Tryz.prog T_api_Op (.agg ⟨opDC r⟩) (.agg ⟨opDC q⟩) (decide (r = q)) := by
 have h : EqV 3 Tryz.prog T_api_Op (.agg ⟨opDC r⟩) (.agg ⟨opDC q⟩) (decide (r.1 = q.1) && (decide (r.2.1 = q.2.1) && (decide (r.2.2 = q.2.2) && true))) := by
  refine EqV.struct (d := [(T_string, 0), (T_bool, 1), (T_string, 2)]) (by kernel_rfl) (by kernel_rfl) (by kernel_rfl) ?_
  refine EqFs.cons (PartIs.one tblOk rfl rfl rfl) (PartIs.one tblOk rfl rfl rfl) (EqV.str tblOk rfl rfl _ _) ?_
  refine EqFs.cons (PartIs.one tblOk rfl rfl rfl) (PartIs.one tblOk rfl rfl rfl) (EqV.bool tblOk rfl rfl _ _) ?_
  exact EqFs.cons (PartIs.one tblOk rfl rfl rfl) (PartIs.one tblOk rfl rfl rfl) (EqV.str tblOk rfl rfl _ _) EqFs.nil
 have e : decide (r = q) = (decide (r.1 = q.1) && (decide (r.2.1 = q.2.1) && (decide (r.2.2 = q.2.2) && true))) := by
  rw [Bool.eq_iff_iff]; simp [Prod.ext_iff]
 rw [e]; exact h
theorem eq_from {α : Type} {l m : List α} (hn : l.length = m.length) (h : ∀ i (h1 : i < l.length) (h2 : i < m.length), l[i] = m[i]) : l = m := List.ext_getElem hn h
def putTail (k : Bytes) : List RecM → List RecM
 |[] => []
 |x :: q => if x.1 = k then q else x :: q
theorem putTail_cons (k : Bytes) (x : RecM) (q : List RecM) : putTail k (x :: q) = if x.1 = k then q else x :: q := rfl
def before (l : List RecM) (k : Bytes) : List RecM := l.takeWhile fun r => Op.bytesLess r.1 k
def behind (l : List RecM) (k : Bytes) : List RecM := l.dropWhile fun r => Op.bytesLess r.1 k
def putOne (o : OpM) : List RecM := if o.2.1 then [] else [(o.1, o.2.2)]
def putL (l : List RecM) (o : OpM) : List RecM := before l o.1 ++ putOne o ++ putTail o.1 (behind l o.1)
theorem before_lt (l : List RecM) (k : Bytes) : ∀ r ∈ before l k, Op.bytesLess r.1 k = true := fun r hr => by
 have := List.all_takeWhile (p := fun r : RecM => Op.bytesLess r.1 k) (l := l)
 exact kBd.1 this r hr
theorem before_behind (l : List RecM) (k : Bytes) : before l k ++ behind l k = l := List.takeWhile_append_dropWhile
theorem behind_ge {l : List RecM} (hl : l.Pairwise LessR) (k : Bytes) : ∀ r ∈ behind l k, Op.bytesLess r.1 k = false := by
 induction l with
 |nil => intro r h; cases h
 |cons x l ih =>
  rw [kBa] at hl
  unfold behind at ih ⊢
  rw [List.dropWhile_cons]
  cases hx : Op.bytesLess x.1 k with
  |true => simpa using ih hl.2
  |false =>
   simp only [Bool.false_eq_true, if_false]
   intro r hr
   rcases kAf.1 hr with rfl | hr
   ·exact hx
   ·cases h : Op.bytesLess r.1 k with
    |false => rfl
    |true => rw [bless_trans _ _ _ (hl.1 r hr) h] at hx; cases hx
theorem putTail_mem {k : Bytes} {q : List RecM} {r : RecM} (h : r ∈ putTail k q) : r ∈ q := by
 cases q with
 |nil => cases h
 |cons x q =>
  rw [putTail_cons] at h; split at h
  ·exact kAs _ h
  ·exact h
theorem putL_sorted {l : List RecM} (hl : l.Pairwise LessR) (o : OpM) : (putL l o).Pairwise LessR := by
 have hb := before_behind l o.1
 have hlt := before_lt l o.1
 have hge := behind_ge hl o.1
 rw [← hb] at hl
 unfold putL
 generalize before l o.1 = p at *
 generalize behind l o.1 = q at *
 rw [kBx] at hl
 obtain ⟨hp, hq, hpq⟩ := hl
 have htail : (putTail o.1 q).Pairwise LessR ∧ ∀ r ∈ putTail o.1 q, Op.bytesLess o.1 r.1 = true := by
  cases q with
  |nil => exact ⟨List.Pairwise.nil, fun r h => by cases h⟩
  |cons x q =>
   rw [kBa] at hq
   rw [putTail_cons]
   split
   ·next hx => exact ⟨hq.2, fun r hr => by rw [← hx]; exact hq.1 r hr⟩
   ·next hx =>
    have hx2 : Op.bytesLess o.1 x.1 = true := by
     rcases bless_tri x.1 o.1 with h | h | h
     ·rw [hge x kAt] at h; cases h
     ·exact absurd h hx
     ·exact h
    refine ⟨kBa.2 hq, fun r hr => ?_⟩
    rcases kAf.1 hr with rfl | hr
    ·exact hx2
    ·exact bless_trans _ _ _ hx2 (hq.1 r hr)
 rw [kBx, kBx]
 refine ⟨⟨hp, ?_, ?_⟩, htail.1, ?_⟩
 ·unfold putOne; split
  ·exact List.Pairwise.nil
  ·exact List.pairwise_singleton _ _
 ·intro r hr s hs
  unfold putOne at hs; split at hs
  ·cases hs
  ·rw [kAy] at hs; subst hs; exact hlt r hr
 ·intro r hr s hs
  rcases kAl.1 hr with hr | hr
  ·exact hpq r hr s (putTail_mem hs)
  ·unfold putOne at hr; split at hr
   ·cases hr
   ·rw [kAy] at hr; subst hr; exact htail.2 s hs
theorem putL_len (l : List RecM) (o : OpM) : (putL l o).length ≤ l.length + 1 := by
 have h1 := congrArg List.length (before_behind l o.1)
 have h2 : (putTail o.1 (behind l o.1)).length ≤ (behind l o.1).length := by
  cases behind l o.1 with
  |nil => simp [putTail]
  |cons x q => rw [putTail_cons]; split <;> simp
 have h3 : (putOne o).length ≤ 1 := by unfold putOne; split <;> simp
 unfold putL
 simp only [kAa] at h1 ⊢; omega
def writeL (l : List RecM) (os : List OpM) : List RecM := os.foldl putL l
theorem writeL_len (l : List RecM) (os : List OpM) : (writeL l os).length ≤ l.length + os.length := by
 induction os generalizing l with
 |nil => simp [writeL]
 |cons o os ih =>
  have h1 := ih (putL l o)
  have h2 := putL_len l o
  unfold writeL at h1 ⊢
  rw [kCd, kAe]; omega
structure IsLook (E : List EntM) (k : Bytes) (t : Int) (x : EntM) : Prop where
 mem : x ∈ E
 key : x.k = k
 le : x.s ≤ t
 top : ∀ y ∈ E, y.k = k → y.s ≤ t → y.s ≤ x.s
def Vis (E : List EntM) (t : Int) (k v : Bytes) : Prop := ∃ x, IsLook E k t x ∧ x.d = false ∧ x.v = v
abbrev OneE (E : List EntM) : Prop := E.Pairwise fun a b => ¬ Same a b
theorem Same.symm {a b : EntM} (h : Same a b) : Same b a := ⟨h.1.symm, h.2.symm⟩
theorem OneE.perm {E F : List EntM} (h : OneE E) (hp : E.Perm F) : OneE F := (hp.pairwise_iff (fun h hs => h hs.symm)).1 h
theorem Rise.one {E : List EntM} (h : Rise E) : OneE E := h.imp fun {a b} hab hs => by
 rw [(elt_same hs).1, elt_irrefl] at hab; cases hab
theorem OneE.uniq : ∀ {E : List EntM}, OneE E → ∀ {a b : EntM}, a ∈ E → b ∈ E → Same a b → a = b
 |[], _, _, _, ha, _, _ => by cases ha
 |x :: E, h, a, b, ha, hb, hs => by
  have h' := kBa.1 h
  rcases kAf.1 ha with ea | ha
  ·rcases kAf.1 hb with eb | hb
   ·rw [ea, eb]
   ·exact absurd (ea ▸ hs) (h'.1 b hb)
  ·rcases kAf.1 hb with eb | hb
   ·exact absurd (eb ▸ hs.symm) (h'.1 a ha)
   ·exact OneE.uniq h'.2 ha hb hs
theorem IsLook.uniq {E : List EntM} (h : OneE E) {k : Bytes} {t : Int} {x y : EntM} (hx : IsLook E k t x) (hy : IsLook E k t y) : x = y :=
 h.uniq hx.mem hy.mem ⟨hx.key.trans hy.key.symm, Int.le_antisymm (hy.top x hx.mem hx.key hx.le) (hx.top y hy.mem hy.key hy.le)⟩
theorem IsLook.iff {E F : List EntM} (h : ∀ x, x ∈ E ↔ x ∈ F) {k : Bytes} {t : Int} {x : EntM} (hx : IsLook E k t x) : IsLook F k t x :=
 ⟨(h x).1 hx.mem, hx.key, hx.le, fun y hy => hx.top y ((h y).2 hy)⟩
theorem Vis.iff {E F : List EntM} (h : ∀ x, x ∈ E ↔ x ∈ F) {t : Int} {k v : Bytes} : Vis E t k v ↔ Vis F t k v :=
 ⟨fun ⟨x, hx, h2⟩ => ⟨x, hx.iff h, h2⟩, fun ⟨x, hx, h2⟩ => ⟨x, hx.iff fun y => (h y).symm, h2⟩⟩
structure View (E : List EntM) (t : Int) (rs : List RecM) : Prop where
 rise : rs.Pairwise LessR
 all : ∀ k v, (k, v) ∈ rs ↔ Vis E t k v
theorem recs_ext : ∀ {a b : List RecM}, a.Pairwise LessR → b.Pairwise LessR → (∀ r, r ∈ a ↔ r ∈ b) → a = b
 |[], [], _, _, _ => rfl
 |[], y :: b, _, _, h => by have := (h y).2 kAt; cases this
 |x :: a, [], _, _, h => by have := (h x).1 kAt; cases this
 |x :: a, y :: b, ha, hb, h => by
  have ha' := kBa.1 ha
  have hb' := kBa.1 hb
  have irr : ∀ {r q : RecM}, LessR r q → r ≠ q := fun h e => by subst e; unfold LessR at h; rw [bless_irrefl] at h; cases h
  have hxy : x = y := by
   rcases kAf.1 ((h x).1 kAt) with hx | hx
   ·exact hx
   ·rcases kAf.1 ((h y).2 kAt) with hy | hy
    ·exact hy.symm
    ·have h1 := hb'.1 x hx
     have h2 := ha'.1 y hy
     have := bless_asym h1
     unfold LessR at h2
     rw [h2] at this; cases this
  subst hxy
  rw [recs_ext ha'.2 hb'.2 fun r => ?_]
  constructor
  ·intro hr
   rcases kAf.1 ((h r).1 (kAs _ hr)) with e | hr'
   ·exact absurd e.symm (irr (ha'.1 r hr))
   ·exact hr'
  ·intro hr
   rcases kAf.1 ((h r).2 (kAs _ hr)) with e | hr'
   ·exact absurd e.symm (irr (hb'.1 r hr))
   ·exact hr'
theorem View.uniq {E : List EntM} {t : Int} {a b : List RecM} (ha : View E t a) (hb : View E t b) : a = b :=
 recs_ext ha.rise hb.rise fun r => (ha.all r.1 r.2).trans (hb.all r.1 r.2).symm
theorem View.same {E F : List EntM} {t u : Int} {a : List RecM} (ha : View E t a) (h : ∀ k v, Vis E t k v ↔ Vis F u k v) : View F u a :=
 ⟨ha.rise, fun k v => (ha.all k v).trans (h k v)⟩
theorem View.nil (t : Int) : View [] t [] := ⟨List.Pairwise.nil, fun k v => ⟨fun h => (by cases h), fun ⟨x, h, _⟩ => (by cases h.mem)⟩⟩
/-! ## One operation -/
theorem putL_mem {l : List RecM} (hl : l.Pairwise LessR) (o : OpM) (r : RecM) : r ∈ putL l o ↔ (r.1 ≠ o.1 ∧ r ∈ l) ∨ (o.2.1 = false ∧ r = (o.1, o.2.2)) := by
 have hb := before_behind l o.1
 have hlt := before_lt l o.1
 have hge := behind_ge hl o.1
 have hsub : ∀ x, x ∈ l ↔ x ∈ before l o.1 ∨ x ∈ behind l o.1 := fun x => by rw [← kAl, hb]
 have hq : (behind l o.1).Pairwise LessR := by rw [← hb] at hl; exact (kBx.1 hl).2.1
 have hone : r ∈ putOne o ↔ o.2.1 = false ∧ r = (o.1, o.2.2) := by
  unfold putOne
  split
  ·rename_i h; simp [h]
  ·rename_i h; simp at h; simp [h]
 have htail : r ∈ putTail o.1 (behind l o.1) ↔ r ∈ behind l o.1 ∧ r.1 ≠ o.1 := by
  generalize behind l o.1 = q at hge hq
  cases q with
  |nil => simp [putTail]
  |cons x q =>
   have hq' := kBa.1 hq
   rw [putTail_cons]
   split
   ·rename_i hx
    constructor
    ·intro hr
     refine ⟨kAs _ hr, fun e => ?_⟩
     have := hq'.1 r hr
     unfold LessR at this
     rw [hx, e, bless_irrefl] at this; cases this
    ·rintro ⟨hr, hne⟩
     rcases kAf.1 hr with rfl | hr
     ·exact absurd hx hne
     ·exact hr
   ·rename_i hx
    refine ⟨fun hr => ⟨hr, fun e => ?_⟩, fun h => h.1⟩
    rcases kAf.1 hr with rfl | hr
    ·exact hx e
    ·have h1 := hq'.1 r hr
     have h2 := hge x kAt
     unfold LessR at h1
     rw [e] at h1
     rw [h1] at h2; cases h2
 unfold putL
 rw [kAl, kAl, hone, htail, hsub]
 constructor
 ·rintro ((h | h) | ⟨h, hne⟩)
  ·left
   refine ⟨fun e => ?_, .inl h⟩
   have := hlt r h
   rw [e, bless_irrefl] at this; cases this
  ·exact .inr h
  ·exact .inl ⟨hne, .inr h⟩
 ·rintro (⟨hne, h | h⟩ | h)
  ·exact .inl (.inl h)
  ·exact .inr ⟨h, hne⟩
  ·exact .inl (.inr h)
def entOf (s : Int) (o : OpM) : EntM := ⟨o.1, s, o.2.1, if o.2.1 then [] else o.2.2⟩
def With (E : List EntM) (x : EntM) (F : List EntM) : Prop := ∀ z, z ∈ F ↔ z = x ∨ (z ∈ E ∧ ¬ Same z x)
theorem With.look {E F : List EntM} {x : EntM} (h : With E x F) (hs : ∀ z ∈ E, z.s ≤ x.s) {t : Int} (ht : x.s ≤ t) : IsLook F x.k t x :=
 ⟨(h x).2 (.inl rfl), rfl, ht, fun y hy hk _ => by
  rcases (h y).1 hy with rfl | ⟨h1, _⟩
  ·exact kCb _
  ·exact hs y h1⟩
theorem With.other {E F : List EntM} {x : EntM} (h : With E x F) {k : Bytes} {t : Int} (hk : k ≠ x.k ∨ t < x.s) (z : EntM) : IsLook F k t z ↔ IsLook E k t z := by
 have hne : ∀ y : EntM, y.k = k → y.s ≤ t → y ≠ x ∧ ¬ Same y x := fun y h1 h2 => by
  rcases hk with hk | hk
  ·exact ⟨fun e => hk (h1 ▸ (by rw [e])), fun e => hk (h1 ▸ e.1)⟩
  ·exact ⟨fun e => by subst e; omega, fun e => by have := e.2; omega⟩
 constructor
 ·intro hz
  refine ⟨?_, hz.key, hz.le, fun y hy h1 h2 => hz.top y ((h y).2 (.inr ⟨hy, (hne y h1 h2).2⟩)) h1 h2⟩
  rcases (h z).1 hz.mem with e | h1
  ·exact absurd e (hne z hz.key hz.le).1
  ·exact h1.1
 ·intro hz
  refine ⟨(h z).2 (.inr ⟨hz.mem, (hne z hz.key hz.le).2⟩), hz.key, hz.le, fun y hy h1 h2 => ?_⟩
  rcases (h y).1 hy with e | h3
  ·exact absurd e (hne y h1 h2).1
  ·exact hz.top y h3.1 h1 h2
theorem View.put {E F : List EntM} {s t : Int} {rs : List RecM} {o : OpM} (hv : View E t rs) (h1 : OneE F) (h : With E (entOf s o) F) (hs : ∀ z ∈ E, z.s ≤ s) (ht : s ≤ t) : View F t (putL rs o) := by
 refine ⟨putL_sorted hv.rise o, fun k v => ?_⟩
 rw [putL_mem hv.rise]
 by_cases hk : k = o.1
 ·have hl := h.look hs ht
  constructor
  ·rintro (⟨hne, _⟩ | ⟨hd, he⟩)
   ·exact absurd hk hne
   ·simp only [Prod.mk.injEq] at he
    refine ⟨entOf s o, by rw [he.1]; exact hl, hd, ?_⟩
    unfold entOf; simp [hd, he.2]
  ·rintro ⟨x, hx, hd, hv'⟩
   subst hk
   have := hx.uniq h1 hl
   subst this
   unfold entOf at hd hv'
   simp only at hd
   simp only [hd] at hv'
   exact .inr ⟨hd, by rw [← hv']; rfl⟩
 ·have ho := fun z => h.other (k := k) (t := t) (.inl (show k ≠ o.1 from hk)) z
  constructor
  ·rintro (⟨_, hm⟩ | ⟨_, he⟩)
   ·obtain ⟨x, hx, h2⟩ := (hv.all k v).1 hm
    exact ⟨x, (ho x).2 hx, h2⟩
   ·simp only [Prod.mk.injEq] at he; exact absurd he.1 hk
  ·rintro ⟨x, hx, h2⟩
   exact .inl ⟨hk, (hv.all k v).2 ⟨x, (ho x).1 hx, h2⟩⟩
theorem View.old {E F : List EntM} {x : EntM} {t : Int} {rs : List RecM} (hv : View E t rs) (h : With E x F) (ht : t < x.s) : View F t rs :=
 hv.same fun _ _ => ⟨fun ⟨z, hz, h2⟩ => ⟨z, (h.other (.inr ht) z).2 hz, h2⟩, fun ⟨z, hz, h2⟩ => ⟨z, (h.other (.inr ht) z).1 hz, h2⟩⟩
theorem insE_with {x : EntM} {l : List EntM} (h : Rise l) : With l x (insE x l) := fun z => by
 rw [insE_mem]
 constructor
 ·rintro (e | ⟨h1, h2⟩ | ⟨h1, h2, h3, h4⟩)
  ·exact .inl e
  ·exact .inr ⟨h1, h2⟩
  ·left
   have hx : x ∈ insE x l := (insE_mem x l x).2 (.inl rfl)
   exact (insE_rise h).one.uniq h4 hx ⟨h2, h3⟩
 ·rintro (e | ⟨h1, h2⟩)
  ·exact .inl e
  ·exact .inr (.inl ⟨h1, h2⟩)
def grpE : List EntM → List (List EntM)
 |[] => []
 |x :: l => match grpE l with
  |[] => [[x]]
  |g :: gs => if (g.head?.map (·.k)) = some x.k then (x :: g) :: gs else [x] :: g :: gs
theorem grpE_head (x : EntM) (l : List EntM) : ∃ g gs, grpE (x :: l) = (x :: g) :: gs := by
 unfold grpE
 split
 ·exact ⟨[], [], rfl⟩
 ·split
  ·exact ⟨_, _, rfl⟩
  ·exact ⟨[], _, rfl⟩
theorem grpE_cons (x y : EntM) (l : List EntM) : grpE (x :: y :: l) = if y.k = x.k then (match grpE (y :: l) with | [] => [] | g :: gs => (x :: g) :: gs) else [x] :: grpE (y :: l) := by
 obtain ⟨g, gs, e⟩ := grpE_head y l
 rw [grpE, e]
 simp only [List.head?_cons, kD, Option.some.injEq]
theorem grpE_flat : ∀ l, (grpE l).flatten = l
 |[] => rfl
 |x :: l => by
  have ih := grpE_flat l
  unfold grpE
  split
  ·rename_i h; rw [h] at ih; simp at ih; subst ih; rfl
  ·rename_i g gs h
   rw [h] at ih
   split <;> simp [← ih]
theorem grpE_ne : ∀ l, ∀ g ∈ grpE l, g ≠ []
 |[], g, h => by cases h
 |x :: l, g, h => by
  have ih := grpE_ne l
  unfold grpE at h
  split at h
  ·simp at h; subst h; simp
  ·rename_i g' gs he
   rw [he] at ih
   split at h
   ·rcases kAf.1 h with rfl | h
    ·simp
    ·exact ih g (kAs _ h)
   ·rcases kAf.1 h with rfl | h
    ·simp
    ·exact ih g h
theorem grpE_key : ∀ l, ∀ g ∈ grpE l, ∀ x ∈ g, ∀ y ∈ g, x.k = y.k
 |[], g, h => by cases h
 |z :: l, g, h => by
  have ih := grpE_key l
  unfold grpE at h
  split at h
  ·simp at h; subst h
   intro x hx y hy; simp at hx hy; rw [hx, hy]
  ·rename_i g' gs he
   rw [he] at ih
   split at h
   ·rename_i hk
    rcases kAf.1 h with rfl | h
    ·have hz : ∀ x ∈ g', x.k = z.k := by
      intro x hx
      cases g' with
      |nil => cases hx
      |cons w g' =>
       simp only [List.head?_cons, kD, Option.some.injEq] at hk
       rw [← hk]
       exact ih (w :: g') kAt x hx w kAt
     intro x hx y hy
     have h1 : ∀ x ∈ z :: g', x.k = z.k := fun x hx => by
      rcases kAf.1 hx with rfl | hx
      ·rfl
      ·exact hz x hx
     rw [h1 x hx, h1 y hy]
    ·exact ih g (kAs _ h)
   ·rcases kAf.1 h with rfl | h
    ·intro x hx y hy; simp at hx hy; rw [hx, hy]
    ·exact ih g h
theorem grpE_less : ∀ {l : List EntM}, Rise l → (grpE l).Pairwise fun g h => ∀ x ∈ g, ∀ y ∈ h, Op.bytesLess x.k y.k = true
 |[], _ => List.Pairwise.nil
 |[x], _ => by simp [grpE]
 |x :: y :: l, hr => by
  have hr' := kBa.1 hr
  have ih := grpE_less hr'.2
  rw [grpE_cons]
  obtain ⟨g, gs, e⟩ := grpE_head y l
  have hkey := grpE_key (y :: l)
  rw [e] at ih hkey ⊢
  have ih' := kBa.1 ih
  split
  ·rename_i hk
   refine kBa.2 ⟨fun h hh a ha b hb => ?_, ih'.2⟩
   rcases kAf.1 ha with rfl | ha
   ·rw [← hk]; exact ih'.1 h hh y kAt b hb
   ·exact ih'.1 h hh a ha b hb
  ·rename_i hk
   refine kBa.2 ⟨fun h hh a ha b hb => ?_, ih⟩
   simp only [kAy] at ha
   subst ha
   have hay : Op.bytesLess a.k y.k = true := by
    have := hr'.1 y kAt
    rw [elt_iff] at this
    rcases this with h | h
    ·exact h
    ·exact absurd h.1.symm hk
   rcases kAf.1 hh with rfl | hh
   ·rw [hkey _ kAt b hb y kAt]; exact hay
   ·exact bless_trans _ _ _ hay (ih'.1 h hh y kAt b hb)
theorem grpE_mem {l : List EntM} {x : EntM} : x ∈ l ↔ ∃ g ∈ grpE l, x ∈ g := by
 conv => lhs; rw [← grpE_flat l]
 simp
theorem grpE_same {l : List EntM} (hr : Rise l) {g : List EntM} (hg : g ∈ grpE l) {x y : EntM} (hx : x ∈ g) (hy : y ∈ l) (hk : y.k = x.k) : y ∈ g := by
 obtain ⟨h, hh, hyh⟩ := grpE_mem.1 hy
 have hp := grpE_less hr
 have irr : ∀ {a b : EntM}, a.k = b.k → Op.bytesLess a.k b.k = true → False := fun e h => by rw [e, bless_irrefl] at h; cases h
 obtain ⟨i, hi, rfl⟩ := kCy.1 hg
 obtain ⟨j, hj, rfl⟩ := kCy.1 hh
 rcases Nat.lt_trichotomy i j with h | h | h
 ·exact (irr hk.symm (kDe.1 hp i j hi hj h x hx y hyh)).elim
 ·subst h; exact hyh
 ·exact (irr hk (kDe.1 hp j i hj hi h y hyh x hx)).elim
theorem grpE_rise {l : List EntM} (hr : Rise l) {g : List EntM} (hg : g ∈ grpE l) : Rise g := by
 have : g.Sublist l := by
  conv => rhs; rw [← grpE_flat l]
  exact List.sublist_flatten_of_mem hg
 exact hr.sublist this
def newE (t : Int) (g : List EntM) : Option EntM := g.find? fun x => decide (x.s ≤ t)
theorem newE_look {g : List EntM} (hr : Rise g) {k : Bytes} (hk : ∀ x ∈ g, x.k = k) (t : Int) (x : EntM) : newE t g = some x ↔ IsLook g k t x := by
 constructor
 ·intro h
  obtain ⟨h1, pa, pb, h2, h3⟩ := List.find?_eq_some_iff_append.1 h
  refine ⟨by rw [h2]; simp, hk x (by rw [h2]; simp), by simpa using h1, fun y hy _ hyt => ?_⟩
  rw [h2] at hy hr
  rcases kAl.1 hy with hy | hy
  ·have := h3 y hy; simp at this; omega
  ·rcases kAf.1 hy with rfl | hy
   ·exact kCb _
   ·have h4 := (kBa.1 (kBx.1 hr).2.1).1 y hy
    rw [elt_iff] at h4
    rcases h4 with h4 | h4
    ·rw [hk x (by rw [h2]; simp), hk y (by rw [h2]; simp [hy]), bless_irrefl] at h4; cases h4
    ·omega
 ·intro h
  obtain ⟨pa, pb, h2⟩ := List.append_of_mem h.mem
  refine List.find?_eq_some_iff_append.2 ⟨by simpa using h.le, pa, pb, h2, fun y hy => ?_⟩
  have hy' : y ∈ g := by rw [h2]; simp [hy]
  rw [h2] at hr
  have h4 := (kBx.1 hr).2.2 y hy x kAt
  rw [elt_iff] at h4
  have h5 : x.s < y.s := by
   rcases h4 with h4 | h4
   ·rw [h.key, hk y hy', bless_irrefl] at h4; cases h4
   ·exact h4.2
  simp only [Bool.not_eq_eq_eq_not, Bool.not_true, decide_eq_false_iff_not]
  intro h6
  have := h.top y hy' (hk y hy') h6
  omega
theorem look_group {l : List EntM} (hr : Rise l) {g : List EntM} (hg : g ∈ grpE l) {k : Bytes} (hk : ∀ x ∈ g, x.k = k) (t : Int) (x : EntM) : IsLook l k t x ↔ IsLook g k t x := by
 have hne := grpE_ne l g hg
 obtain ⟨z, hz⟩ := List.exists_mem_of_ne_nil g hne
 have hin : ∀ y ∈ l, y.k = k → y ∈ g := fun y hy he => grpE_same hr hg hz hy (he.trans (hk z hz).symm)
 have hsub : ∀ y ∈ g, y ∈ l := fun y hy => grpE_mem.2 ⟨g, hg, hy⟩
 exact ⟨fun h => ⟨hin x h.mem h.key, h.key, h.le, fun y hy => h.top y (hsub y hy)⟩, fun h => ⟨hsub x h.mem, h.key, h.le, fun y hy he => h.top y (hin y hy he) he⟩⟩
def seenE (t : Int) (g : List EntM) : List EntM := match newE t g with | none => [] | some x => if x.d then [] else [x]
def viewE (t : Int) (l : List EntM) : List EntM := (grpE l).flatMap (seenE t)
theorem seenE_mem {t : Int} {g : List EntM} {x : EntM} : x ∈ seenE t g ↔ newE t g = some x ∧ x.d = false := by
 unfold seenE
 cases h : newE t g with
 |none => simp
 |some y =>
  simp only [Option.some.injEq]
  split
  ·rename_i hd
   constructor
   ·intro h; cases h
   ·rintro ⟨rfl, h⟩; rw [hd] at h; cases h
  ·rename_i hd
   simp only [kAy]
   constructor
   ·rintro rfl; exact ⟨rfl, by simpa using hd⟩
   ·rintro ⟨rfl, _⟩; rfl
theorem grp_keys {l g : List EntM} (hg : g ∈ grpE l) : ∃ k, ∀ x ∈ g, x.k = k := by
 obtain ⟨z, hz⟩ := List.exists_mem_of_ne_nil g (grpE_ne l g hg)
 exact ⟨z.k, fun x hx => grpE_key l g hg x hx z hz⟩
def kvE (x : EntM) : RecM := (x.k, x.v)
theorem viewE_view {l : List EntM} (hr : Rise l) (t : Int) : View l t ((viewE t l).map kvE) := by
 have hmem : ∀ x, x ∈ viewE t l ↔ IsLook l x.k t x ∧ x.d = false := by
  intro x
  unfold viewE
  rw [List.mem_flatMap]
  constructor
  ·rintro ⟨g, hg, hx⟩
   obtain ⟨k, hk⟩ := grp_keys hg
   obtain ⟨h1, h2⟩ := seenE_mem.1 hx
   have h3 := (newE_look (grpE_rise hr hg) hk t x).1 h1
   rw [h3.key]
   exact ⟨(look_group hr hg hk t x).2 h3, h2⟩
  ·rintro ⟨h1, h2⟩
   obtain ⟨g, hg, hx⟩ := grpE_mem.1 h1.mem
   obtain ⟨k, hk⟩ := grp_keys hg
   have hkx := hk x hx
   rw [hkx] at h1
   exact ⟨g, hg, seenE_mem.2 ⟨(newE_look (grpE_rise hr hg) hk t x).2 ((look_group hr hg hk t x).1 h1), h2⟩⟩
 refine ⟨?_, fun k v => ?_⟩
 ·rw [List.pairwise_map]
  unfold viewE
  rw [List.pairwise_flatMap]
  refine ⟨fun g _ => ?_, ?_⟩
  ·unfold seenE
   split
   ·exact List.Pairwise.nil
   ·split
    ·exact List.Pairwise.nil
    ·exact List.pairwise_singleton _ _
  ·refine (grpE_less hr).imp fun {g h} hgh x hx y hy => ?_
   have hx' := List.mem_of_find?_eq_some (seenE_mem.1 hx).1
   have hy' := List.mem_of_find?_eq_some (seenE_mem.1 hy).1
   exact hgh x hx' y hy'
 ·rw [kAm]
  constructor
  ·rintro ⟨x, hx, e⟩
   obtain ⟨h1, h2⟩ := (hmem x).1 hx
   simp only [kvE, Prod.mk.injEq] at e
   exact ⟨x, by rw [← e.1]; exact h1, h2, e.2⟩
  ·rintro ⟨x, h1, h2, h3⟩
   exact ⟨x, (hmem x).2 ⟨by rw [h1.key]; exact h1, h2⟩, by unfold kvE; rw [h1.key, h3]⟩
end Go.Proofs.YtkgibdhpijdbfaaGreatDoor
namespace Go.Eng
open Go
section
variable {P : Program} {T0 : Tbl}
theorem St.appZ (hT : TOk P T0) {t u e ty : TypeId} {sz : Nat} {i ie : TI} {k0 k1 : IntKind} (hi : tf T0 t = some i) (hk : i.k = .slice e sz) (hie : tf T0 e = some ie) (hz : ie.zero.cells.size = sz) (hu : P.underlying u = some (.int k0)) {w0 w : World} {T : List Nat} {H : Heap} (hS : St w0 T H w)
  {m : Nat} (hm : 0 < m) (hlen : m * ie.bytes ≤ 140737488355328) (hm2 : m ≤ 9223372036854775807) {K : Value → World → Prop}
  (h : ∀ g cap' L' w', Vec e sz (some ⟨g, 0, none⟩) 0 cap' [] L' → m ≤ cap' → St w0 T (L' ++ H) w' → K (.slice (some ⟨g, 0, none⟩) m cap') w') :
  RunG P (Builtin.append_ ⟨[t, u]⟩ ty ⟨[.slice none 0 0, .int k1 (m : Int)]⟩) w K := by
 have ht := und_of hT hi
 rw [hk] at ht
 obtain ⟨ht, hes⟩ := ht
 obtain ⟨inf, hinf, hzz, hs1, hby⟩ := info_of hT hie
 have hsz : inf.size = sz := by rw [hinf] at hes; simpa using hes
 have hw : IntKind.i64.wrap (m : Int) = (m : Int) := IntWalk.i64_in _ (by omega)
 have h2 : ¬ ((m : Int) < 0) := by omega
 have h3 : ¬ (9223372036854775807 < (m : Int)) := by omega
 have h4 : ¬ (281474976710656 < Builtin.nextslicecap m 0 * inf.bytes) := by rw [nextslicecap_zero (by omega), hby]; omega
 have h5 : ¬ (281474976710656 < (m : Int) * (inf.bytes : Int)) := by
  rw [hby]
  have : ((m * ie.bytes : Nat) : Int) ≤ ((140737488355328 : Nat) : Int) := Int.ofNat_le.2 hlen
  rw [Int.natCast_mul] at this
  omega
 have hge := grownCap_ge w m 0 e
 have hlz : ([] : List Value).length + ((Builtin.zeroCells ie.zero.cells m).toList ++ (Builtin.zeroCells ie.zero.cells (grownCap w m 0 e - m)).toList).length = grownCap w m 0 e * sz := by
  rw [kAa, zeroCells_len, zeroCells_len, hz, ← kCg, kAq, kBl]; congr 1; omega
 have hS2 : St w0 T ([(w.heap.size, Obj.cells ⟨[] ++ ((Builtin.zeroCells ie.zero.cells m).toList ++ (Builtin.zeroCells ie.zero.cells (grownCap w m 0 e - m)).toList)⟩ e (0, 0))] ++ H) (w.drew.alloc (.cells ⟨[] ++ ((Builtin.zeroCells ie.zero.cells m).toList ++ (Builtin.zeroCells ie.zero.cells (grownCap w m 0 e - m)).toList)⟩ e (0, 0))) := (hS.drew).alloc _
 refine RunG.of (v := .slice (some ⟨w.heap.size, 0, none⟩) m (grownCap w m 0 e)) ?_ (h _ _ _ _ (Vec.row w.heap.size 0 _ [] _ (by simp) hlz (kAg _)) hge hS2)
 have hm0 : m ≠ 0 := by omega
 simp [Builtin.append_, run_underlying ht, run_underlying hu, sizeOf, typeInfo, zeroValue, hinf, hzz, hsz, asInt, asIntOf, hw, h2, h3, h4, h5, hm0, Question.forced, run_firstCells_none, newRow, grownCap]
 by_cases h0 : m * sz = 0
 ·have e0 : (Builtin.zeroCells ie.zero.cells m).toList = [] := kCu (by rw [zeroCells_len, hz]; exact h0)
  rw [if_pos h0, e0]
  simp
 ·rw [if_neg h0]
  congr 3
  apply Array.ext'
  simp
end
end Go.Eng
namespace Go.Proofs.YtkgibdhpijdbfaaGreatDoor
open Go Go.Eng Go.Proofs Go.Srt
inductive LsIn (w : World) : List Value → List (List EntM) → Prop where
 |nil : LsIn w [] []
 |cons {a : Option Addr} {c : Nat} {l : List EntM} {xs : List Value} {ls : List (List EntM)} (ha : Arr w [] a (l.flatMap entC)) (hc : l.length ≤ c) (h : LsIn w xs ls) : LsIn w (.slice a l.length c :: xs) (l :: ls)
theorem LsIn.len {w : World} {xs : List Value} {ls : List (List EntM)} (h : LsIn w xs ls) : xs.length = ls.length := by
 induction h with
 |nil => rfl
 |cons _ _ _ ih => simp [ih]
theorem LsIn.get {w : World} {xs : List Value} {ls : List (List EntM)} (h : LsIn w xs ls) : ∀ (k : Nat) (hk : k < ls.length), ∃ a c, xs[k]? = some (.slice a ls[k].length c) ∧ Arr w [] a (ls[k].flatMap entC) ∧ ls[k].length ≤ c := by
 induction h with
 |nil => intro k hk; simp at hk
 |cons ha hc h ih =>
  intro k hk
  cases k with
  |zero => exact ⟨_, _, rfl, ha, hc⟩
  |succ k => obtain ⟨a, c, h1, h2⟩ := ih k (by simpa using hk); exact ⟨a, c, by simpa using h1, by simpa using h2⟩
theorem entsC_len (l : List EntM) : (l.flatMap entC).length = l.length * 4 := flat_lenE (cv := entC) (sz := 4) (fun _ => rfl) l
theorem entsC_one (l : List EntM) : (l.flatMap entC).all Value.oneCell' = true := by
 induction l with
 |nil => rfl
 |cons p ps ih => rw [kBo, List.all_append, ih]; rfl
theorem entsC_at (l : List EntM) (k : Nat) (hk : k < l.length) : ((l.flatMap entC).drop (k * 4)).take 4 = entC l[k] := by
 induction l generalizing k with
 |nil => simp at hk
 |cons p ps ih =>
  cases k with
  |zero => simp only [Nat.zero_mul, List.drop_zero, kBo, kDb]; exact kCa rfl
  |succ k =>
   rw [kBo, show (k + 1) * 4 = (entC p).length + k * 4 by show _ = 4 + _; omega, List.drop_length_add_append]
   exact ih k (by simpa using hk)
theorem ents_app (p q : List EntM) : (p ++ q).flatMap entC = p.flatMap entC ++ q.flatMap entC := kCm
theorem ordE : Ord fun x y : EntM => decide (ecmp x y < 0) where
 asym x y h := by
  simp only [decide_eq_true_eq, decide_eq_false_iff_not, ecmp_lt] at h ⊢
  rw [elt_asym h]; simp
 trans x y z h1 h2 := by
  simp only [decide_eq_false_iff_not, ecmp_lt, Bool.not_eq_true] at h1 h2 ⊢
  cases h3 : elt z x with
  |false => rfl
  |true =>
   rcases elt_tri y z with h | h | h
   ·have := elt_trans h h3; rw [h1] at this; cases this
   ·rw [(elt_same h).1, h3] at h1; cases h1
   ·rw [h2] at h; cases h
theorem rise_srt {l : List EntM} (hs : Srt (fun x y : EntM => decide (ecmp x y < 0)) l) (h1 : OneE l) : Rise l := by
 have h := List.Pairwise.and hs h1
 refine h.imp fun {a b} hab => ?_
 simp only [decide_eq_false_iff_not, ecmp_lt, Bool.not_eq_true] at hab
 rcases elt_tri a b with h | h | h
 ·exact h
 ·exact absurd h hab.2
 ·rw [hab.1] at h; cases h
set_option maxHeartbeats 2000000 in
theorem mergeEq_spec (x y : EntM) (w : World) : Cl Tryz.prog f_merge_Merge_1 [entV x, entV y] w fun v w' => v = .bool (decide (ecmp x y = 0)) ∧ St w [] [] w' := by
 have hS := St.start w
 have hc := fun w => merge_compare_spec x y w
 unfold entV entC at hc ⊢
 refine en_merge_Merge_1 rfl ?_
 refine jq ⟨?_⟩
 refine hS.al ?_
 intro b2 w2 _ hS
 refine jq ⟨?_⟩
 refine hS.al ?_
 intro b3 w3 _ hS
 (repeat (refine jt ⟨?_⟩; refine hS.st rfl rfl ?_; intro _ hS)); refine jt ⟨?_⟩
 refine (hc _).mono ?_
 rintro _ w4 ⟨rfl, hS'⟩
 have hS := hS.call0 hS'
 refine jq ⟨?_⟩
 exact ⟨rfl, hS.nil⟩
set_option maxHeartbeats 2000000 in
theorem Grow_specE {w : World} (m : Nat) (hm : m ≤ 1099511627776) :
  Cl Tryz.prog f_slices_Grow_api_Entry_api_Entry [.slice none 0 0, .int .i64 m] w fun v w' => ∃ a c L, v = .slice a 0 c ∧ Vec T_api_Entry 4 a 0 c [] L ∧ St w [] L w' := by
 have hS := St.start w
 refine en_slices_Grow_api_Entry_api_Entry rfl ?_
 by_cases h0 : m = 0
 ·subst h0
  refine jq ⟨?_⟩
  exact ⟨none, 0, [], rfl, Vec.nil, hS⟩
 ·refine jq ⟨?_⟩
  refine St.appZ (k1 := .i64) (sz := 4) tblOk rfl rfl rfl rfl (und_of tblOk (t := T_int) rfl) hS (m := m) (by omega) (by show _ * 48 ≤ _; omega) (by omega) ?_
  intro g c L w1 hv hc hS
  rw [kAk] at hS
  refine jq ⟨?_⟩
  exact ⟨_, c, L, rfl, hv, hS⟩
set_option maxHeartbeats 2000000 in
theorem Concat_spec {w : World} {a : Option Addr} {c : Nat} {xs : List Value} {ls : List (List EntM)} (ha : Arr w [] a xs) (hL : LsIn w xs ls) (hl : ls.length ≤ 1099511627776) (hn : ls.flatten.length ≤ 16777216) :
  Cl Tryz.prog f_slices_Concat_api_Entry_api_Entry [.slice a ls.length c] w fun v w' => ∃ a' c' L, v = .slice a' ls.flatten.length c' ∧ Vec T_api_Entry 4 a' ls.flatten.length c' (ls.flatten.flatMap entC) L ∧ St w [] L w' := by
 have hS := St.start w
 have hlx := hL.len
 have htake : ∀ k, k ≤ ls.length → (ls.take k).flatten.length ≤ ls.flatten.length := fun k _ => by
  have := congrArg List.length (kBy (L₁ := ls.take k) (L₂ := ls.drop k))
  rw [kAu, kAa] at this; omega
 have hsucc : ∀ k (hk : k < ls.length), (ls.take (k + 1)).flatten = (ls.take k).flatten ++ ls[k] := fun k hk => by
  rw [kAn hk, kBy]; simp
 refine en_slices_Concat_api_Entry_api_Entry rfl ?_
 refine jq ⟨?_⟩
 refine SemW.loop (fun k : Nat => [(0, .slice a ls.length c), (3, .int .i64 (ls.take k).flatten.length), (9, .slice a ls.length c), (10, .int .i64 ls.length), (11, .int .i64 k)])
  (fun k w' => k ≤ ls.length ∧ St w [] [] w') (fun k => ls.length - k) 0
  ⟨rfl, rfl, rfl, rfl, rfl, trivial⟩ ⟨kAg _, hS⟩ ?_
 clear hS
 rintro k w1 ⟨hk, hS⟩
 by_cases hkl : k < ls.length
 ·obtain ⟨a1, c1, hx, ha1, hc1⟩ := hL.get k hkl
  have h1 := htake (k + 1) (by omega)
  have h2 := htake k (by omega)
  have h3 := hsucc k hkl
  rw [h3, kAa] at h1
  obtain ⟨g, off, rfl, -, -⟩ := ha.get (j := k) (by omega)
  refine jq ⟨?_⟩
  refine Arr.ldc (j := k) hS ha hx (by omega) ?_
  refine jq ⟨?_⟩
  exact ⟨k + 1, ⟨rfl, by rw [h3, kAa]; rfl, rfl, rfl, rfl, trivial⟩, ⟨by omega, hS⟩, by omega⟩
 ·obtain rfl : k = ls.length := by omega
  rw [kAr]
  refine jq ⟨?_⟩
  refine (Grow_specE ls.flatten.length (by omega)).mono ?_
  rintro _ w2 ⟨a2, c2, L2, rfl, hv2, hS2⟩
  have hS := hS.callNew hS2
  rw [kAk] at hS
  refine jq ⟨?_⟩
  refine SemW.loop (fun i : Nat × Option Addr × Nat => [(0, .slice a ls.length c), (6, .slice i.2.1 (ls.take i.1).flatten.length i.2.2), (25, .slice a ls.length c), (26, .int .i64 ls.length), (27, .int .i64 i.1)])
   (fun i w' => i.1 ≤ ls.length ∧ ∃ L, Vec T_api_Entry 4 i.2.1 (ls.take i.1).flatten.length i.2.2 ((ls.take i.1).flatten.flatMap entC) L ∧ St w [] L w') (fun i => ls.length - i.1) (0, a2, c2)
   ⟨rfl, rfl, rfl, rfl, rfl, trivial⟩ ⟨kAg _, L2, hv2, hS⟩ ?_
  clear hS hk hkl
  rintro ⟨k, a3, c3⟩ w3 ⟨hk, L3, hv, hS⟩
  simp only at hk hv hS ⊢
  by_cases hkl : k < ls.length
  ·obtain ⟨a1, c1, hx, ha1, hc1⟩ := hL.get k hkl
   have h1 := htake (k + 1) (by omega)
   have h3 := hsucc k hkl
   rw [h3, kAa] at h1
   obtain ⟨g, off, rfl, -, -⟩ := ha.get (j := k) (by omega)
   refine jq ⟨?_⟩
   refine Arr.ldc (j := k) hS ha hx (by omega) ?_
   refine jq ⟨?_⟩
   refine St.app (sz := 4) (m := ls[k].length) tblOk rfl rfl rfl rfl hS hv (news := ls[k].flatMap entC) (entsC_len _) (hS.arrOld ha1) (entsC_one _) (by show (_ + _) * 48 ≤ _; omega) (by omega) ?_
   intro a4 c4 L4 w4 hv4 hS
   refine jq ⟨?_⟩
   exact ⟨(k + 1, a4, c4), ⟨rfl, by rw [h3, kAa]; rfl, rfl, rfl, rfl, trivial⟩, ⟨by omega, L4, by rw [h3, kAa, ents_app]; exact hv4, hS⟩, by simp; omega⟩
  ·obtain rfl : k = ls.length := by omega
   rw [kAr] at hv ⊢
   refine jq ⟨?_⟩
   exact ⟨a3, c3, L3, rfl, hv, hS⟩
theorem ent_at {w : World} {T : List Nat} {a : Option Addr} {l : List EntM} (ha : Arr w T a (l.flatMap entC)) {k : Nat} (hk : k < l.length) : ∃ g off, a = some ⟨g, off, none⟩ ∧ ∀ (j : Nat) (v : Value), (entC l[k])[j]? = some v → w.cell? ⟨g, off + k * 4 + j, none⟩ = some v := by
 have hlen := entsC_len l
 obtain ⟨g, off, hg, -, -⟩ := ha.get (j := k * 4) (by omega)
 refine ⟨g, off, hg, fun j v hj => ?_⟩
 have hj4 : j < 4 := (kBt.1 hj).1
 have hx : (l.flatMap entC)[k * 4 + j]? = some v := by
  rw [← entsC_at l k hk, kCw, if_pos hj4, kCv] at hj
  exact hj
 obtain ⟨g', o', h1, _, h3⟩ := ha _ v hx
 rw [hg] at h1
 simp only [Option.some.injEq, Addr.mk.injEq, and_true] at h1
 obtain ⟨rfl, rfl⟩ := h1
 rw [kCs]; exact h3
set_option maxHeartbeats 4000000 in
theorem Compact_spec {w : World} {a : Option Addr} {c : Nat} {l : List EntM} (ha : Arr w [] a (l.flatMap entC)) (hr : Rise l) (hl : l.length ≤ 1099511627776) :
  Cl Tryz.prog f_slices_CompactFunc_api_Entry_api_Entry [.slice a l.length c, .func (.func f_merge_Merge_1) ⟨[]⟩ ⟨[]⟩] w fun v w' => v = .slice a l.length c ∧ St w [] [] w' := by
 have hS := St.start w
 refine en_slices_CompactFunc_api_Entry_api_Entry rfl ?_
 by_cases h2 : l.length < 2
 ·refine jq ⟨?_⟩
  exact ⟨rfl, hS⟩
 ·refine jq ⟨?_⟩
  refine SemW.loop (fun k : Nat => [(0, .slice a l.length c), (1, .func (.func f_merge_Merge_1) ⟨[]⟩ ⟨[]⟩), (4, .slice none 0 0), (5, .int .i64 k)])
   (fun k w' => 1 ≤ k ∧ k ≤ l.length ∧ St w [] [] w') (fun k => l.length - k) 1
   ⟨rfl, rfl, rfl, rfl, trivial⟩ ⟨kAd _, by omega, hS⟩ ?_
  clear hS
  rintro k w1 ⟨hk1, hk, hS⟩
  by_cases hkl : k < l.length
  ·obtain ⟨g, off, rfl, hx⟩ := ent_at ha hkl
   obtain ⟨g', o', h1, hy⟩ := ent_at ha (show k - 1 < l.length by omega)
   simp only [Option.some.injEq, Addr.mk.injEq, and_true] at h1
   obtain ⟨rfl, rfl⟩ := h1
   have hne : ¬ ecmp l[k] l[k - 1] = 0 := fun h => by
    have h3 := (ecmp_zero _ _).1 h
    have h4 := kDe.1 hr (k - 1) k (by omega) hkl (by omega)
    rw [(elt_same h3.symm).1, elt_irrefl] at h4; cases h4
   have hcm := fun w => mergeEq_spec l[k] l[k - 1] w
   generalize hu : l[k] = u at hx hne hcm
   generalize hv : l[k - 1] = v at hy hne hcm
   unfold entV entC at hcm
   refine jq ⟨?_⟩
   refine SemW.draw tblOk mixed (fun w' => St w _ _ w') [10] [0, 1, 2, 3, 4, 5, 6, 7, 8, 9, 10] (by kernel_rfl) hS.drew ?_
   have hS := hS.drew
   refine jr ⟨?_⟩
   refine ldnS (cs := [Str u.k, .int .i64 u.s, .bool u.d, Str u.v]) rfl (fun w' hw j x hj => hw.oldCell (by simp) (by have := hx j x hj; rw [show off + ((k : Int)).toNat * 4 + j = off + k * 4 + j by omega]; exact this)) ?_
   refine jr ⟨?_⟩
   refine ldnS (cs := [Str v.k, .int .i64 v.s, .bool v.d, Str v.v]) rfl (fun w' hw j x hj => hw.oldCell (by simp) (by have := hy j x hj; rw [show off + ((k : Int) - 1).toNat * 4 + j = off + (k - 1) * 4 + j by omega]; exact this)) ?_
   refine jr ⟨?_⟩
   refine (hcm _).mono ?_
   rintro _ w2 ⟨rfl, hS'⟩
   have hS := hS.call0 hS'
   refine jr ⟨?_⟩
   refine jq ⟨?_⟩
   exact ⟨k + 1, ⟨rfl, rfl, rfl, rfl, trivial⟩, ⟨by omega, by omega, hS⟩, by omega⟩
  ·refine jq ⟨?_⟩
   exact ⟨rfl, hS⟩
end Go.Proofs.YtkgibdhpijdbfaaGreatDoor
namespace Go.Proofs.YtkgibdhpijdbfaaGreatDoor
open Go Go.Eng Go.Proofs
structure FitE (l : List EntM) : Prop where
 seq : SeqsE l
 sz : szsE l ≤ 1099511627776
theorem FitE.part {a b c : List EntM} (h : FitE (a ++ (b ++ c))) : FitE b := ⟨fun x hx => h.seq x (by simp [hx]), by have := h.sz; rw [szsE_app, szsE_app] at this; omega⟩
theorem entsB_le : ∀ (l : List EntM) (last : Bytes), FitE l → last.length ≤ 1099511627776 → (entsB last l).length ≤ 60 * l.length + szsE l
 |[], _, _, _ => by simp [entsB]
 |x :: l, last, h, hl => by
  have e : szsE (x :: l) = szE x + szsE l := by simp [szsE]
  have hz := h.sz
  rw [e] at hz
  have hx : szE x = x.k.length + x.v.length := rfl
  have h1 := entB_le last x (by omega) (by omega) hl (h.seq x kAt)
  have h2 := entsB_le l x.k ⟨fun y hy => h.seq y (kAs _ hy), by omega⟩ (by omega)
  rw [entsB, kAa, e, kAe]
  omega
set_option maxHeartbeats 8000000 in
theorem EncodeB_spec {w : World} {a : Option Addr} {c : Nat} {l : List EntM} (ha : Arr w [] a (l.flatMap entC)) (hr : Rise l) (hf : FineE l) (hfit : FitE l) (hn : l.length ≤ 1099511627) :
  Cl Tryz.prog f_block_Encode [.slice a l.length c] w fun v w' => v = .tuple ⟨[Str (blockB l), .int .i64 0]⟩ ∧ St w [] [] w' := by
 have hS := St.start w
 refine en_block_Encode rfl ?_
 refine jq ⟨?_⟩
 refine PNew_spec.mono ?_
 rintro _ w1 ⟨pb, L, rfl, hW, hS'⟩
 have hS := hS.callNew hS'
 rw [kAk] at hS
 refine jq ⟨?_⟩
 refine hS.al ?_
 intro wb w2 _ hS
 (repeat (refine jt ⟨?_⟩; refine hS.st rfl rfl ?_; intro _ hS)); refine jt ⟨?_⟩
 refine hS.al ?_
 intro b5 w3 _ hS
 (repeat (refine jt ⟨?_⟩; refine hS.st rfl rfl ?_; intro _ hS)); refine jt ⟨?_⟩
 have hn10 := numB_len10 l.length (by omega)
 refine Cl.mono (Num_spec hW (hS.part (L := L)) (ns := [l.length]) (hS.arr (b := b5) (nodup_chunk hS)) (by intro m hm; simp only [kAy] at hm; subst hm; omega) (by simp) (by simp)) ?_
 rintro _ w4 ⟨L1, hW, hS'⟩
 have hS := hS.call (L := L) hS'
 have hS := hS.sub (kAb _ _)
 rw [show [] ++ ([l.length].map numB).flatten = numB l.length by simp] at hW
 (repeat (refine jt ⟨?_⟩; refine hS.st rfl rfl ?_; intro _ hS)); refine jt ⟨?_⟩
 refine SemW.loop (fun i : Nat => [(0, .slice a l.length c), (4, ptr wb), (19, .slice a l.length c), (20, .int .i64 l.length), (21, .int .i64 i)])
  (fun i w' => i ≤ l.length ∧ ∃ L, PackW pb (numB l.length ++ entsB [] (l.take i)) L ∧ St w [] ((wb, .cells ⟨[ptr pb, Str (lastK [] (l.take i))]⟩ T_block_writer (0, 0)) :: L) w') (fun i => l.length - i) 0
  ⟨rfl, rfl, rfl, rfl, rfl, trivial⟩ ⟨kAg _, L1, by simpa [entsB] using hW, hS⟩ ?_
 clear hS hS' hW
 rintro i w5 ⟨hi, L, hW, hS⟩
 by_cases hil : i < l.length
 ·obtain ⟨g, off, rfl, hx⟩ := ent_at ha hil
  have hsucc := kAn hil
  have hfx := hf l[i] (kAx hil)
  have hsx := hfit.seq l[i] (kAx hil)
  have hzx := szsE_mem (kAx hil)
  have hzx2 : szE l[i] = l[i].k.length + l[i].v.length := rfl
  have hsz := hfit.sz
  have hft : FitE (l.take i) := ⟨fun y hy => hfit.seq y (kDd hy), by have := szsE_take l i; omega⟩
  have hel := entsB_le (l.take i) [] hft (by simp)
  have htl : (l.take i).length = i := by rw [kAo]; omega
  have hst := szsE_take l i
  rw [htl] at hel
  have hlk : (lastK [] (l.take i)).length ≤ 1099511627776 := by
   unfold lastK
   split
   ·simp
   ·rename_i y hy
    have := szsE_mem (kDd (kDl hy))
    have h2 : szE y = y.k.length + y.v.length := rfl
    omega
  have hfin : ∀ (L' : Heap) (w' : World), PackW pb (numB l.length ++ entsB [] (l.take i) ++ entB (lastK [] (l.take i)) l[i]) L' → St w [] ((wb, .cells ⟨[ptr pb, Str l[i].k]⟩ T_block_writer (0, 0)) :: L') w' →
    i + 1 ≤ l.length ∧ ∃ L, PackW pb (numB l.length ++ entsB [] (l.take (i + 1))) L ∧ St w [] ((wb, .cells ⟨[ptr pb, Str (lastK [] (l.take (i + 1)))]⟩ T_block_writer (0, 0)) :: L) w' := by
   intro L' w' h1 h2
   refine ⟨hil, L', ?_, ?_⟩
   ·rw [hsucc, entsB_snoc, ← kAc]; exact h1
   ·rw [hsucc, lastK_snoc]; exact h2
  have hris : ∀ (hp : 0 < i), elt l[i - 1] l[i] = true := fun hp => kDe.1 hr (i - 1) i (by omega) hil (by omega)
  have hpv : ∀ (hp : 0 < i), ∀ (j : Nat) (v : Value), (entC l[i - 1])[j]? = some v → w.cell? ⟨g, off + (i - 1) * 4 + j, none⟩ = some v := fun hp => by
   obtain ⟨g', o', h1, hy⟩ := ent_at ha (show i - 1 < l.length by omega)
   simp only [Option.some.injEq, Addr.mk.injEq, and_true] at h1
   obtain ⟨rfl, rfl⟩ := h1
   exact hy
  generalize hu : l[i] = u at hx hfx hsx hzx hzx2 hfin hris
  have hent := fun (w : World) (pb' wb' : Nat) (bs last : Bytes) (L : Heap) (h1 : PackW pb' bs L) => entry_spec (w := w) (wb := wb') (x := u) (last := last) h1
  obtain ⟨uk, us, ud, uv⟩ := u
  simp only at hfx hsx hzx2
  unfold entV entC at hent
  simp only at hent
  cases ud with
  |true =>
   obtain rfl : uv = [] := hfx rfl
   refine jq ⟨?_⟩
   refine ldnW (cs := [Str uk, .int .i64 us, .bool true, Str []]) rfl (fun j x hj => hS.oldCell (by simp) (by have := hx j x hj; rw [show off + ((i : Int)).toNat * 4 + j = off + i * 4 + j by omega]; exact this)) ?_
   refine jq ⟨?_⟩
   refine hS.al ?_
   intro b6 w6 _ hS
   (repeat (refine jt ⟨?_⟩; refine hS.st rfl rfl ?_; intro _ hS)); refine jt ⟨?_⟩
   by_cases h0 : 0 < i
   ·have hris := hris h0
    have hpv := hpv h0
    generalize l[i - 1] = v at hris hpv
    have hrs := fun w => rises_spec v ⟨uk, us, true, []⟩ w
    unfold entV entC at hrs
    rw [hris] at hrs
    refine SemW.draw tblOk mixed (fun w' => St w _ _ w') [] [0, 1, 2, 3, 4, 5, 6, 7, 8, 9, 10, 11, 12, 13, 14, 15, 16, 17, 18, 19, 20] (by kernel_rfl) hS.drew ?_
    have hS := hS.drew
    refine jr ⟨?_⟩
    refine ldnS (cs := [Str v.k, .int .i64 v.s, .bool v.d, Str v.v]) rfl (fun w' hw j x hj => hw.oldCell (by simp) (by have := hpv j x hj; rw [show off + ((i : Int) - 1).toNat * 4 + j = off + (i - 1) * 4 + j by omega]; exact this)) ?_
    refine jr ⟨?_⟩
    refine (hrs _).mono ?_
    rintro _ w7 ⟨rfl, hS'⟩
    have hS := hS.call0 hS'
    refine Chk.mk hS ?_
    refine jr ⟨?_⟩
    (repeat (refine jt ⟨?_⟩; refine hS.st rfl rfl ?_; intro _ hS)); refine jt ⟨?_⟩
    refine (hent _ _ _ _ _ _ hW (hS.part (L := (wb, .cells ⟨[ptr pb, Str (lastK [] (l.take i))]⟩ T_block_writer (0, 0)) :: L)) (by omega) (by first | omega | simp) hlk hsx (by rw [kAa]; omega)).mono ?_
    rintro _ w8 ⟨L8, hW8, hS'⟩
    have hS := hS.call (L := (wb, .cells ⟨[ptr pb, Str (lastK [] (l.take i))]⟩ T_block_writer (0, 0)) :: L) hS'
    refine jq ⟨?_⟩
    exact ⟨i + 1, ⟨rfl, rfl, rfl, rfl, rfl, trivial⟩, hfin L8 w8 hW8 (hS.sub (kAb _ _)), by omega⟩
   ·refine SemW.draw tblOk mixed (fun w' => St w _ _ w') [] [0, 1, 2, 3, 4, 5, 6, 7, 8, 9, 10, 11, 12, 13, 14, 15, 16, 17, 18, 19, 20] (by kernel_rfl) hS.drew ?_
    have hS := hS.drew
    refine jr ⟨?_⟩
    (repeat (refine jt ⟨?_⟩; refine hS.st rfl rfl ?_; intro _ hS)); refine jt ⟨?_⟩
    refine (hent _ _ _ _ _ _ hW (hS.part (L := (wb, .cells ⟨[ptr pb, Str (lastK [] (l.take i))]⟩ T_block_writer (0, 0)) :: L)) (by omega) (by first | omega | simp) hlk hsx (by rw [kAa]; omega)).mono ?_
    rintro _ w8 ⟨L8, hW8, hS'⟩
    have hS := hS.call (L := (wb, .cells ⟨[ptr pb, Str (lastK [] (l.take i))]⟩ T_block_writer (0, 0)) :: L) hS'
    refine jq ⟨?_⟩
    exact ⟨i + 1, ⟨rfl, rfl, rfl, rfl, rfl, trivial⟩, hfin L8 w8 hW8 (hS.sub (kAb _ _)), by omega⟩
  |false =>
   refine jq ⟨?_⟩
   refine ldnW (cs := [Str uk, .int .i64 us, .bool false, Str uv]) rfl (fun j x hj => hS.oldCell (by simp) (by have := hx j x hj; rw [show off + ((i : Int)).toNat * 4 + j = off + i * 4 + j by omega]; exact this)) ?_
   refine jq ⟨?_⟩
   refine hS.al ?_
   intro b6 w6 _ hS
   (repeat (refine jt ⟨?_⟩; refine hS.st rfl rfl ?_; intro _ hS)); refine jt ⟨?_⟩
   by_cases h0 : 0 < i
   ·have hris := hris h0
    have hpv := hpv h0
    generalize l[i - 1] = v at hris hpv
    have hrs := fun w => rises_spec v ⟨uk, us, false, uv⟩ w
    unfold entV entC at hrs
    rw [hris] at hrs
    refine SemW.draw tblOk mixed (fun w' => St w _ _ w') [] [0, 1, 2, 3, 4, 5, 6, 7, 8, 9, 10, 11, 12, 13, 14, 15, 16, 17, 18, 19, 20] (by kernel_rfl) hS.drew ?_
    have hS := hS.drew
    refine jr ⟨?_⟩
    refine ldnS (cs := [Str v.k, .int .i64 v.s, .bool v.d, Str v.v]) rfl (fun w' hw j x hj => hw.oldCell (by simp) (by have := hpv j x hj; rw [show off + ((i : Int) - 1).toNat * 4 + j = off + (i - 1) * 4 + j by omega]; exact this)) ?_
    refine jr ⟨?_⟩
    refine (hrs _).mono ?_
    rintro _ w7 ⟨rfl, hS'⟩
    have hS := hS.call0 hS'
    refine Chk.mk hS ?_
    refine jr ⟨?_⟩
    (repeat (refine jt ⟨?_⟩; refine hS.st rfl rfl ?_; intro _ hS)); refine jt ⟨?_⟩
    refine (hent _ _ _ _ _ _ hW (hS.part (L := (wb, .cells ⟨[ptr pb, Str (lastK [] (l.take i))]⟩ T_block_writer (0, 0)) :: L)) (by omega) (by first | omega | simp) hlk hsx (by rw [kAa]; omega)).mono ?_
    rintro _ w8 ⟨L8, hW8, hS'⟩
    have hS := hS.call (L := (wb, .cells ⟨[ptr pb, Str (lastK [] (l.take i))]⟩ T_block_writer (0, 0)) :: L) hS'
    refine jq ⟨?_⟩
    exact ⟨i + 1, ⟨rfl, rfl, rfl, rfl, rfl, trivial⟩, hfin L8 w8 hW8 (hS.sub (kAb _ _)), by omega⟩
   ·refine SemW.draw tblOk mixed (fun w' => St w _ _ w') [] [0, 1, 2, 3, 4, 5, 6, 7, 8, 9, 10, 11, 12, 13, 14, 15, 16, 17, 18, 19, 20] (by kernel_rfl) hS.drew ?_
    have hS := hS.drew
    refine jr ⟨?_⟩
    (repeat (refine jt ⟨?_⟩; refine hS.st rfl rfl ?_; intro _ hS)); refine jt ⟨?_⟩
    refine (hent _ _ _ _ _ _ hW (hS.part (L := (wb, .cells ⟨[ptr pb, Str (lastK [] (l.take i))]⟩ T_block_writer (0, 0)) :: L)) (by omega) (by first | omega | simp) hlk hsx (by rw [kAa]; omega)).mono ?_
    rintro _ w8 ⟨L8, hW8, hS'⟩
    have hS := hS.call (L := (wb, .cells ⟨[ptr pb, Str (lastK [] (l.take i))]⟩ T_block_writer (0, 0)) :: L) hS'
    refine jq ⟨?_⟩
    exact ⟨i + 1, ⟨rfl, rfl, rfl, rfl, rfl, trivial⟩, hfin L8 w8 hW8 (hS.sub (kAb _ _)), by omega⟩
 ·obtain rfl : i = l.length := by omega
  rw [kAr] at hW
  (repeat (refine jt ⟨?_⟩; refine hS.st rfl rfl ?_; intro _ hS)); refine jt ⟨?_⟩
  refine Cl.mono (Bytes_spec hW (hS.part (L := L))) ?_
  rintro _ w6 ⟨rfl, hS'⟩
  have hS := hS.call (L := L) hS'
  refine jq ⟨?_⟩
  exact ⟨rfl, hS.nil⟩
structure TabF (l : List EntM) : Prop where
 len : l.length ≤ 64
 rise : Rise l
 fine : FineE l
 seqs : SeqsE l
 sz : ∀ x ∈ l, szE x ≤ 4096
def tableB (l : List EntM) : Bytes := sealB (tableP l)
theorem szsE_le (n : Nat) : ∀ m : List EntM, (∀ x ∈ m, szE x ≤ n) → szsE m ≤ n * m.length
 |[], _ => by simp [szsE]
 |x :: m, h => by
  rw [szsE_cons, kAe]
  have := h x kAt
  have := szsE_le n m fun y hy => h y (kAs _ hy)
  rw [Nat.mul_succ]; omega
theorem TabF.szs {l : List EntM} (h : TabF l) : szsE l ≤ 262144 := by
 have := szsE_le 4096 l h.sz
 have := h.len
 omega
theorem TabF.fit {l : List EntM} (h : TabF l) : FitE l := ⟨h.seqs, by have := h.szs; omega⟩
theorem TabF.sub {l m : List EntM} (h : TabF l) (hs : m.Sublist l) : TabF m :=
 ⟨kBb hs.length_le h.len, h.rise.sublist hs, fun x hx => h.fine x (hs.mem hx), fun x hx => h.seqs x (hs.mem hx), fun x hx => h.sz x (hs.mem hx)⟩
theorem TabF.piece {l : List EntM} (h : TabF l) (i : Nat) : TabF ((l.drop (i * 8)).take 8) := h.sub ((List.take_sublist _ _).trans (List.drop_sublist _ _))
theorem TabF.ok {l : List EntM} (h : TabF l) : okLens (tableP l) = true := by
 unfold okLens
 rw [kBd]
 intro p hp
 exact decide_eq_true (tableP_fit h.len h.seqs h.sz p hp)
theorem TabF.cnt {l : List EntM} (h : TabF l) : (pieces 8 l).length ≤ 8 := by
 rw [pieces_len]; have := h.len; omega
theorem TabF.pcnt {l : List EntM} (h : TabF l) : (tableP l).length ≤ 11 := by
 have := h.cnt
 simp only [tableP, kAa, kAv, kAe, kAq]; omega
theorem sumLen_le (n : Nat) : ∀ ps : List Bytes, (∀ p ∈ ps, p.length ≤ n) → sumLen ps ≤ n * ps.length
 |[], _ => by simp [sumLen]
 |p :: ps, h => by
  have h1 := h p kAt
  have h2 := sumLen_le n ps fun q hq => h q (kAs _ hq)
  simp only [sumLen, kAh, kCj, kAe] at h2 ⊢
  rw [Nat.mul_succ]; omega
theorem TabF.sum {l : List EntM} (h : TabF l) : sumLen (tableP l) ≤ 720896 := by
 have h1 := sumLen_le 65536 (tableP l) (tableP_fit h.len h.seqs h.sz)
 have h2 := h.pcnt
 omega
theorem TabF.bytes {l : List EntM} (h : TabF l) : (tableB l).length ≤ 1048576 := by
 have h1 := h.sum
 have h2 := h.pcnt
 unfold tableB
 rw [sealB_len]; omega
theorem TabF.idx {l : List EntM} (h : TabF l) (i : Nat) : (idxP ((pieces 8 l).take i) (pieces 8 l).length).1.length ≤ 1048576 ∧ (idxP ((pieces 8 l).take i) (pieces 8 l).length).2 ≤ 1048576 := by
 have h0 := h.cnt
 have h1 := h.szs
 have h2 := h.len
 have hf : ((pieces 8 l).take i).flatten.Sublist l := by
  rcases Nat.le_total i (pieces 8 l).length with hi | hi
  ·rw [pieces_take (by omega) l i hi]; exact List.take_sublist _ _
  ·rw [kDi hi, pieces_flat (by omega)]
   exact List.Sublist.refl _
 have hs := h.sub hf
 have h3 := hs.szs
 have h4 := hs.len
 have h5 : ((pieces 8 l).take i).length ≤ 8 := by rw [kAo]; omega
 have := idxP_len ((pieces 8 l).take i) (pieces 8 l).length (by omega) hs.seqs (by omega)
 omega
theorem TabF.block {l : List EntM} (h : TabF l) : (blockB l).length ≤ 1048576 := by
 have h1 := h.szs
 have h2 := h.len
 have := blockB_len (l := l) h.seqs (by omega) (by omega)
 omega
theorem lastK_get {c : List EntM} (h : 0 < c.length) : lastK [] c = (c[c.length - 1]'(by omega)).k := by
 unfold lastK
 rw [List.getLast?_eq_getElem?, kAp (by omega)]
theorem namesE_sz2 {l : List EntM} (h : TabF l) : ∀ k ∈ namesE l, k.length ≤ 4096 := by
 intro k hk
 obtain ⟨x, hx, rfl⟩ := namesE_sz l k hk
 have := h.sz x hx
 unfold szE at this; omega
theorem bloomB_len (ks : List Bytes) (h : ks.length ≤ 64) : (bloomB ks).length ≤ 65536 := by
 cases ks with
 |nil => simp [bloomB]
 |cons k ks =>
  have e : bloomB (k :: ks) = (bloomN (k :: ks)).map UInt8.ofNat := rfl
  rw [e, kAv, bloomN_len]; simp at h; simp; omega
def newI (t : Int) (g : List EntM) : Option Nat := g.findIdx? fun x => decide (x.s ≤ t)
def keepI (g : List EntM) (seen : List Int) (i : Nat) : Bool := decide (i = 0) || seen.any fun n => decide (newI n g = some i)
def keptE (p : Nat → Bool) : Nat → List EntM → List EntM
 |_, [] => []
 |i, x :: l => if p i then x :: keptE p (i + 1) l else keptE p (i + 1) l
theorem keptE_snoc (p : Nat → Bool) : ∀ (l : List EntM) (i : Nat) (x : EntM), keptE p i (l ++ [x]) = keptE p i l ++ if p (i + l.length) then [x] else []
 |[], i, x => by simp only [kBj, keptE, kAq, Nat.add_zero]
 |y :: l, i, x => by
  simp only [kBe, keptE, keptE_snoc p l (i + 1) x, kAe, show i + 1 + l.length = i + (l.length + 1) by omega]
  split <;> rfl
theorem keptE_sub (p : Nat → Bool) : ∀ (l : List EntM) (i : Nat), (keptE p i l).Sublist l
 |[], _ => List.Sublist.slnil
 |x :: l, i => by
  unfold keptE
  split
  ·exact (keptE_sub p l (i + 1)).cons_cons x
  ·exact (keptE_sub p l (i + 1)).cons x
theorem keptE_get (p : Nat → Bool) : ∀ (l : List EntM) (i j : Nat) (x : EntM), l[j]? = some x → p (i + j) = true → x ∈ keptE p i l
 |[], _, _, _, h, _ => by simp at h
 |y :: l, i, 0, x, h, hp => by
  simp at h; subst h
  unfold keptE
  rw [if_pos (by simpa using hp)]
  exact kAt
 |y :: l, i, j + 1, x, h, hp => by
  have h1 := keptE_get p l (i + 1) j x (by simpa using h) (by rw [show i + 1 + j = i + (j + 1) by omega]; exact hp)
  unfold keptE
  split
  ·exact kAs _ h1
  ·exact h1
def dropD (l : List EntM) : List EntM := (l.reverse.dropWhile fun x => x.d).reverse
theorem dropD_snoc (l : List EntM) (x : EntM) : dropD (l ++ [x]) = if x.d then dropD l else l ++ [x] := by
 unfold dropD
 rw [List.reverse_append, List.reverse_singleton, List.singleton_append, List.dropWhile_cons]
 split
 ·rfl
 ·simp
theorem dropD_app (l : List EntM) : ∃ D, l = dropD l ++ D ∧ ∀ x ∈ D, x.d = true := by
 refine ⟨(l.reverse.takeWhile fun x => x.d).reverse, ?_, fun x hx => ?_⟩
 ·unfold dropD
  rw [← List.reverse_append, List.takeWhile_append_dropWhile, List.reverse_reverse]
 ·have h := List.all_takeWhile (p := fun x : EntM => x.d) (l := l.reverse)
  exact kBd.1 h x (List.mem_reverse.1 hx)
def trimG (seen : List Int) (g : List EntM) : List EntM := dropD (keptE (keepI g seen) 0 g)
def trimE (seen : List Int) (l : List EntM) : List EntM := (grpE l).flatMap (trimG seen)
theorem trimG_sub (seen : List Int) (g : List EntM) : (trimG seen g).Sublist g := by
 obtain ⟨D, h1, _⟩ := dropD_app (keptE (keepI g seen) 0 g)
 have h2 := keptE_sub (keepI g seen) g 0
 rw [h1] at h2
 exact (kBk _ _).trans h2
theorem vis_sub {g h : List EntM} (hr : Rise g) (hs : h.Sublist g) {k : Bytes} {t : Int} (hin : ∀ x, IsLook g k t x → x ∈ h) (x : EntM) : IsLook g k t x ↔ IsLook h k t x := by
 constructor
 ·intro hx
  exact ⟨hin x hx, hx.key, hx.le, fun y hy => hx.top y (hs.subset hy)⟩
 ·intro hx
  -- the group's own newest is in h
  have hxg : x ∈ g := hs.subset hx.mem
  by_cases hlook : ∃ z, IsLook g k t z
  ·obtain ⟨z, hz⟩ := hlook
   have hzh : IsLook h k t z := ⟨hin z hz, hz.key, hz.le, fun y hy => hz.top y (hs.subset hy)⟩
   have : x = z := hx.uniq (Rise.one (hr.sublist hs)) hzh
   rw [this]; exact hz
  ·exfalso
   -- some newest exists
   have : ∀ (n : Nat) (x : EntM), x ∈ g → x.k = k → x.s ≤ t → (t - x.s).toNat ≤ n → ∃ z, IsLook g k t z := by
    intro n
    induction n with
    |zero =>
     intro x h1 h2 h3 h4
     exact ⟨x, h1, h2, h3, fun y _ _ h5 => by omega⟩
    |succ n ih =>
     intro x h1 h2 h3 h4
     by_cases hb : ∃ y ∈ g, y.k = k ∧ y.s ≤ t ∧ x.s < y.s
     ·obtain ⟨y, h5, h6, h7, h8⟩ := hb
      exact ih y h5 h6 h7 (by omega)
     ·exact ⟨x, h1, h2, h3, fun y h5 h6 h7 => Int.not_lt.1 fun h8 => hb ⟨y, h5, h6, h7, h8⟩⟩
   exact hlook (this _ x hxg hx.key hx.le (kAd _))
theorem trimG_vis {g : List EntM} (hr : Rise g) {k : Bytes} (hk : ∀ x ∈ g, x.k = k) (seen : List Int) {t : Int} (ht : t ∈ seen ∨ ∀ x ∈ g, x.s ≤ t) (v : Bytes) : Vis g t k v ↔ Vis (trimG seen g) t k v := by
 have hkept := keptE_sub (keepI g seen) g 0
 have hin : ∀ x, IsLook g k t x → x ∈ keptE (keepI g seen) 0 g := by
  intro x hx
  have hn := (newE_look hr hk t x).2 hx
  obtain ⟨h1, pa, pb, h2, h3⟩ := List.find?_eq_some_iff_append.1 hn
  have hget : g[pa.length]? = some x := by rw [h2]; simp
  refine keptE_get _ g 0 pa.length x hget ?_
  unfold keepI
  rw [kBl, Bool.or_eq_true]
  rcases ht with ht | ht
  ·right
   refine List.any_eq_true.2 ⟨t, ht, ?_⟩
   rw [decide_eq_true_eq]
   unfold newI
   rw [kDo]
   have hlt : pa.length < g.length := (kBt.1 hget).1
   refine ⟨hlt, ?_, fun j hj => ?_⟩
   ·rw [(kBt.1 hget).2]; exact h1
   ·have : g[j] = pa[j] := by simp only [h2]; rw [List.getElem_append_left hj]
    rw [this]
    simpa using h3 pa[j] (kAx hj)
  ·left
   cases pa with
   |nil => rfl
   |cons y pa =>
    have h4 := h3 y kAt
    simp only [Bool.not_eq_eq_eq_not, Bool.not_true, decide_eq_false_iff_not] at h4
    exact absurd (ht y (by rw [h2]; simp)) h4
 obtain ⟨D, h1, h2⟩ := dropD_app (keptE (keepI g seen) 0 g)
 have hrk := hr.sublist hkept
 have hvk : Vis g t k v ↔ Vis (keptE (keepI g seen) 0 g) t k v :=
  ⟨fun ⟨x, h, h3⟩ => ⟨x, (vis_sub hr hkept hin x).1 h, h3⟩, fun ⟨x, h, h3⟩ => ⟨x, (vis_sub hr hkept hin x).2 h, h3⟩⟩
 rw [hvk]
 show _ ↔ Vis (dropD (keptE (keepI g seen) 0 g)) t k v
 have hkk : ∀ x ∈ keptE (keepI g seen) 0 g, x.k = k := fun x hx => hk x (hkept.subset hx)
 generalize keptE (keepI g seen) 0 g = K at h1 hrk hkk ⊢
 generalize dropD K = h at h1 ⊢
 subst h1
 constructor
 ·rintro ⟨x, hx, hd, hv⟩
  refine ⟨x, ⟨?_, hx.key, hx.le, fun y hy => hx.top y (kBm _ hy)⟩, hd, hv⟩
  rcases kAl.1 hx.mem with hm | hm
  ·exact hm
  ·rw [h2 x hm] at hd; cases hd
 ·rintro ⟨x, hx, hd, hv⟩
  refine ⟨x, ⟨kBm _ hx.mem, hx.key, hx.le, fun y hy he hyt => ?_⟩, hd, hv⟩
  rcases kAl.1 hy with hm | hm
  ·exact hx.top y hm he hyt
  ·have h4 := (kBx.1 hrk).2.2 x hx.mem y hm
   rw [elt_iff] at h4
   rcases h4 with h4 | h4
   ·rw [hx.key, he, bless_irrefl] at h4; cases h4
   ·omega
theorem look_flat {gs : List (List EntM)} (hp : gs.Pairwise fun g h => ∀ x ∈ g, ∀ y ∈ h, Op.bytesLess x.k y.k = true) (k : Bytes) (t : Int) (x : EntM) : IsLook gs.flatten k t x ↔ ∃ g ∈ gs, IsLook g k t x := by
 constructor
 ·intro hx
  obtain ⟨g, hg, hxg⟩ := kCx.1 hx.mem
  exact ⟨g, hg, hxg, hx.key, hx.le, fun y hy => hx.top y (kCx.2 ⟨g, hg, hy⟩)⟩
 ·rintro ⟨g, hg, hx⟩
  refine ⟨kCx.2 ⟨g, hg, hx.mem⟩, hx.key, hx.le, fun y hy he hyt => hx.top y ?_ he hyt⟩
  obtain ⟨h, hh, hyh⟩ := kCx.1 hy
  obtain ⟨i, hi, rfl⟩ := kCy.1 hg
  obtain ⟨j, hj, rfl⟩ := kCy.1 hh
  have irr : ∀ {a b : EntM}, a.k = b.k → Op.bytesLess a.k b.k = true → False := fun e h => by rw [e, bless_irrefl] at h; cases h
  rcases Nat.lt_trichotomy i j with h | h | h
  ·exact (irr (hx.key.trans he.symm) (kDe.1 hp i j hi hj h x hx.mem y hyh)).elim
  ·subst h; exact hyh
  ·exact (irr (he.trans hx.key.symm) (kDe.1 hp j i hj hi h y hyh x hx.mem)).elim
theorem trimE_rise {l : List EntM} (hr : Rise l) (seen : List Int) : Rise (trimE seen l) := by
 have hs : (trimE seen l).Sublist l := by
  conv => rhs; rw [← grpE_flat l]
  unfold trimE
  rw [List.flatMap_def]
  induction grpE l with
  |nil => exact List.Sublist.slnil
  |cons g gs ih => simp only [kAh, kBi]; exact (trimG_sub seen g).append ih
 exact hr.sublist hs
theorem trimE_sub {l : List EntM} (seen : List Int) : ∀ x ∈ trimE seen l, x ∈ l := by
 intro x hx
 obtain ⟨g, hg, hxg⟩ := List.mem_flatMap.1 hx
 exact grpE_mem.2 ⟨g, hg, (trimG_sub seen g).subset hxg⟩
theorem trimE_vis {l : List EntM} (hr : Rise l) (seen : List Int) {t : Int} (ht : t ∈ seen ∨ ∀ x ∈ l, x.s ≤ t) (k v : Bytes) : Vis l t k v ↔ Vis (trimE seen l) t k v := by
 have hp := grpE_less hr
 have hp2 : ((grpE l).map (trimG seen)).Pairwise fun g h => ∀ x ∈ g, ∀ y ∈ h, Op.bytesLess x.k y.k = true := by
  rw [List.pairwise_map]
  exact hp.imp fun {g h} hgh x hx y hy => hgh x ((trimG_sub seen g).subset hx) y ((trimG_sub seen h).subset hy)
 have e1 : ∀ x, IsLook l k t x ↔ ∃ g ∈ grpE l, IsLook g k t x := fun x => by
  conv => lhs; rw [← grpE_flat l]
  exact look_flat hp k t x
 have e2 : ∀ x, IsLook (trimE seen l) k t x ↔ ∃ g ∈ grpE l, IsLook (trimG seen g) k t x := fun x => by
  unfold trimE
  rw [List.flatMap_def, look_flat hp2 k t x]
  constructor
  ·rintro ⟨g, hg, h⟩
   obtain ⟨a, ha, rfl⟩ := kAm.1 hg
   exact ⟨a, ha, h⟩
  ·rintro ⟨a, ha, h⟩
   exact ⟨_, kAw ha, h⟩
 have key : ∀ g ∈ grpE l, (Vis g t k v ↔ Vis (trimG seen g) t k v) := by
  intro g hg
  obtain ⟨k', hk'⟩ := grp_keys hg
  by_cases hkk : k' = k
  ·subst hkk
   refine trimG_vis (grpE_rise hr hg) hk' seen ?_ v
   rcases ht with ht | ht
   ·exact .inl ht
   ·exact .inr fun x hx => ht x (grpE_mem.2 ⟨g, hg, hx⟩)
  ·constructor
   ·rintro ⟨x, hx, _⟩; exact absurd ((hk' x hx.mem).symm.trans hx.key) hkk
   ·rintro ⟨x, hx, _⟩; exact absurd ((hk' x ((trimG_sub seen g).subset hx.mem)).symm.trans hx.key) hkk
 constructor
 ·rintro ⟨x, hx, h2⟩
  obtain ⟨g, hg, hxg⟩ := (e1 x).1 hx
  obtain ⟨y, hy, h3⟩ := (key g hg).1 ⟨x, hxg, h2⟩
  exact ⟨y, (e2 y).2 ⟨g, hg, hy⟩, h3⟩
 ·rintro ⟨x, hx, h2⟩
  obtain ⟨g, hg, hxg⟩ := (e2 x).1 hx
  obtain ⟨y, hy, h3⟩ := (key g hg).2 ⟨x, hxg, h2⟩
  exact ⟨y, (e1 y).2 ⟨g, hg, hy⟩, h3⟩
def tName (n : Int) : Bytes := 116 :: Lib.itoa n
def wName (n : Int) : Bytes := 119 :: Lib.itoa n
def lName (n : Int) : Bytes := 109 :: Lib.itoa n
def curN : Bytes := [67, 85, 82, 82, 69, 78, 84]
def newN : Bytes := [78, 69, 87]
structure LogM where
 n : Nat
 name : Bytes
 torn : Bool
 dead : Bool
def openL (m : FSm) (nm : Bytes) : LogM := ⟨(scan (findM m nm).1.1).1.length, nm, !decide ((scan (findM m nm).1.1).2 = (findM m nm).1.1.length), false⟩
def appL (m : FSm) (g : LogM) (ps : List Bytes) : Int × LogM × FSm :=
 ((logAppM m g.name g.n g.torn g.dead ps).1, { g with n := (logAppM m g.name g.n g.torn g.dead ps).2.1.1, dead := (logAppM m g.name g.n g.torn g.dead ps).2.1.2 }, (logAppM m g.name g.n g.torn g.dead ps).2.2)
structure StM where
 given : Int
 seqs : List (Int × Int)
 memMax : Int
 fan : Int
 hts : List Int
 v : VM
 list : Option LogM
 log : Option LogM
 mem : List EntM
 adds : Nat
 tabs : List (Int × List EntM)
 seq : Int
 dead : Bool
def editP (v : VM) (i : Nat) : EM := { wholeE v with add := (v.files.drop (i * 2000)).take 2000 }
def editN (v : VM) : Nat := max 1 ((v.files.length + 1999) / 2000)
def editsM (v : VM) : List EM := (List.range (editN v)).map (editP v)
def editsB (v : VM) : List Bytes := (editsM v).map editB
def delAll : List Bytes → FSm → Int × FSm
 |[], m => (0, m)
 |n :: r, m => if (deleteM m n).1 ≠ 0 then deleteM m n else delAll r (deleteM m n).2
def layM : FSm → Int → List (List EntM) → Int × FSm
 |m, _, [] => (0, m)
 |m, n, c :: cs => if (fileM m (tName n) (tableB c)).1 ≠ 0 then fileM m (tName n) (tableB c) else layM (fileM m (tName n) (tableB c)).2 (n + 1) cs
def numsFrom {α : Type} (n : Int) : List α → List (Int × α)
 |[] => []
 |c :: cs => (n, c) :: numsFrom (n + 1) cs
def filesOf (lev : Int) (l : List (Int × List EntM)) : List FileM := l.map fun x => (lev, x.1)
def putAll {α : Type} (t made : List (Int × α)) : List (Int × α) := made.foldl (fun t x => kput x.1 x.2 t) t
def delNs {α : Type} (t : List (Int × α)) (del : List Int) : List (Int × α) := del.foldl (fun t n => kdel n t) t
def tabsWith {α : Type} (t made : List (Int × α)) (del : List Int) : List (Int × α) := delNs (putAll t made) del
def relistM (s : StM) (m : FSm) (v : VM) : Int × StM × VM × FSm :=
 let v' : VM := { v with next := v.next + 1 }
 let a := rewriteM m (lName v.next) (editsB v')
 if a.1 ≠ 0 then (a.1, s, v', a.2) else
 let b := fileM a.2 newN (lName v.next)
 if b.1 ≠ 0 then (b.1, s, v', b.2) else
 let c := renameM b.2 newN curN
 if c.1 ≠ 0 then (c.1, s, v', c.2) else
 if openE c.2 (lName v.next) ≠ 0 then (openE c.2 (lName v.next), s, v', c.2) else (0, { s with list := some (openL c.2 (lName v.next)) }, v', c.2)
def editM (s : StM) (m : FSm) (x : EM) (made : List (Int × List EntM)) : Int × StM × FSm :=
 match applyM s.v x with
 |none => (11, s, m)
 |some nx =>
  if 65536 < (editB x).length then
   let r := relistM s m nx
   if r.1 ≠ 0 then (r.1, r.2.1, r.2.2.2) else (0, { r.2.1 with v := r.2.2.1, tabs := tabsWith s.tabs made x.del }, r.2.2.2)
  else
   match s.list with
   |none => (0, s, m)
   |some g =>
    let r := appL m g [editB x]
    if r.1 ≠ 0 then (r.1, { s with list := some r.2.1 }, r.2.2) else (0, { s with list := some r.2.1, v := nx, tabs := tabsWith s.tabs made x.del }, r.2.2)
def flushM (s : StM) (m : FSm) (mk : List (Int × List EntM)) : Int × StM × FSm :=
 if s.mem = [] then (0, s, m) else
 let cs := pieces 64 s.mem
 let r := layM m s.v.next cs
 if r.1 ≠ 0 then (r.1, s, r.2) else
 let made := numsFrom s.v.next cs
 let n := s.v.next + cs.length
 let q := editM s r.2 ⟨filesOf 0 made, [], n, n + 1, s.seq⟩ mk
 if q.1 ≠ 0 then q else
 if openE q.2.2 (wName n) ≠ 0 then (openE q.2.2 (wName n), { q.2.1 with mem := [], adds := 0, log := none }, q.2.2) else
 let d := deleteM q.2.2 (wName s.v.wal)
 (if d.1 ≠ 0 ∧ d.1 ≠ 5 then d.1 else 0, { q.2.1 with mem := [], adds := 0, log := some (openL q.2.2 (wName n)) }, d.2)
def seenS (s : StM) : List Int := s.seqs.map (·.2)
def compactM (s : StM) (m : FSm) (es : List EntM) (mk : List (Int × List EntM)) : Int × StM × FSm :=
 if s.v.files = [] then (0, s, m) else
 let cs := pieces 64 es
 let r := layM m s.v.next cs
 if r.1 ≠ 0 then (r.1, s, r.2) else
 let made := numsFrom s.v.next cs
 let gone := s.v.files.map (·.2)
 let q := editM s r.2 ⟨filesOf 1 made, gone, s.v.wal, s.v.next + cs.length, s.v.seq⟩ mk
 if q.1 ≠ 0 then q else
 let d := delAll (gone.map tName) q.2.2
 (d.1, q.2.1, d.2)
def upperM (s : StM) : Nat := (s.v.files.filter fun f => decide (f.1 = 0)).length
def doneM (s : StM) (m : FSm) (e : Int) : Int × StM := if (s.dead || decide (e = 7) || m.off) = true then (7, { s with dead := true }) else (e, { s with dead := false })
def opB (o : OpM) : Bytes := textB o.1 ++ (if o.2.1 = true then numB 1 else numB 0 ++ textB o.2.2)
def opsB (ops : List OpM) : Bytes := (ops.map opB).flatten
def payB (seq : Int) (ops : List OpM) : Bytes := intB seq ++ (numB ops.length ++ opsB ops)
def szO (o : OpM) : Nat := o.1.length + o.2.2.length + 16
def sizeO (ops : List OpM) : Nat := (ops.map szO).sum
def cleanO (o : OpM) : OpM := (o.1, o.2.1, if o.2.1 = true then [] else o.2.2)
def entR (seq : Int) (o : OpM) : EntM := ⟨o.1, seq, o.2.1, o.2.2⟩
def takeO (seq : Int) (ops : List OpM) (mem : List EntM) : List EntM := ops.foldl (fun l o => insE (entOf seq o) l) mem
set_option maxHeartbeats 4000000 in
theorem names_spec {w : World} {a : Option Addr} {c : Nat} {l : List EntM} (ha : Arr w [] a (l.flatMap entC)) (hl : l.length ≤ 16777216) :
  Cl Tryz.prog f_table_names [.slice a l.length c] w fun v w' => ∃ a' c' L, v = .slice a' (namesE l).length c' ∧ Vec T_string 1 a' (namesE l).length c' ((namesE l).map Str) L ∧ St w [] L w' := by
 have hS := St.start w
 refine en_table_names rfl ?_
 refine jq ⟨?_⟩
 refine SemW.loop (fun i : Nat × Option Addr × Nat => [(3, .slice i.2.1 (namesE (l.take i.1)).length i.2.2), (6, .slice a l.length c), (7, .int .i64 l.length), (8, .int .i64 i.1)])
  (fun i w' => i.1 ≤ l.length ∧ ∃ L, Vec T_string 1 i.2.1 (namesE (l.take i.1)).length i.2.2 ((namesE (l.take i.1)).map Str) L ∧ St w [] L w') (fun i => l.length - i.1) (0, none, 0)
  ⟨rfl, rfl, rfl, rfl, trivial⟩ ⟨kAg _, [], Vec.nil, hS⟩ ?_
 clear hS
 rintro ⟨k, a1, c1⟩ w1 ⟨hk, L, hv, hS⟩
 simp only at hk hv hS ⊢
 by_cases hkl : k < l.length
 ·obtain ⟨g, off, rfl, hx⟩ := ent_at ha hkl
  have hsucc : namesE (l.take (k + 1)) = namesF (namesE (l.take k)) l[k] := by rw [kAn hkl, namesE_snoc]
  have hlen := namesE_len (l.take k)
  rw [kAo] at hlen
  generalize l[k] = u at hx hsucc
  generalize namesE (l.take k) = N at hv hsucc hlen ⊢
  refine jq ⟨?_⟩
  refine ldnW (cs := [Str u.k, .int .i64 u.s, .bool u.d, Str u.v]) rfl (fun j x hj => hS.oldCell (by simp) (by have := hx j x hj; rw [show off + ((k : Int)).toNat * 4 + j = off + k * 4 + j by omega]; exact this)) ?_
  refine jq ⟨?_⟩
  refine hS.al ?_
  intro b5 w2 _ hS
  (repeat (refine jt ⟨?_⟩; refine hS.st rfl rfl ?_; intro _ hS)); refine jt ⟨?_⟩
  refine SemW.draw tblOk mixed (fun w' => St w _ _ w') [] [0, 1, 2, 3, 4, 5, 6, 7, 8, 9, 10, 11, 12, 13] (by kernel_rfl) hS.drew ?_
  have hS := hS.drew
  rcases kDg N with rfl | ⟨M, z, rfl⟩
  ·have hsucc : namesE (l.take (k + 1)) = [] ++ [u.k] := by rw [hsucc]; rfl
   refine jr ⟨?_⟩
   have hlN := congrArg List.length hsucc
   rw [kAa] at hlN
   (repeat (refine jt ⟨?_⟩; refine hS.st rfl rfl ?_; intro _ hS)); refine jt ⟨?_⟩
   refine hS.al ?_
   intro b6 w3 _ hS
   (repeat (refine jt ⟨?_⟩; refine hS.st rfl rfl ?_; intro _ hS)); refine jt ⟨?_⟩
   refine St.app (sz := 1) (m := 1) tblOk rfl rfl rfl rfl hS hv (news := [Str u.k]) (by rfl) (hS.arr (b := b6) (T' := []) (by simp)) (by rfl) (by show (_ + _) * 16 ≤ _; simp only [kAa, kAe, kAq] at *; omega) (by simp only [kAa, kAe, kAq] at *; omega) ?_
   intro a4 c4 L4 w4 hv4 hS
   refine jq ⟨?_⟩
   exact ⟨(k + 1, a4, c4), ⟨by rw [hlN]; rfl, rfl, rfl, rfl, trivial⟩, ⟨hkl, L4, by rw [hlN, hsucc, kAi]; exact hv4, hS.sub ((kAb _ _).trans (kAb _ _))⟩, by simp; omega⟩
  ·rw [List.concat_eq_append] at hv hsucc hlen ⊢
   have hlM : (M ++ [z]).length = M.length + 1 := by simp
   have hz : ((M ++ [z]).map Str)[M.length]? = some (Str z) := by simp
   unfold namesF at hsucc
   rw [List.getLast?_append] at hsucc
   simp only [List.getLast?_singleton, Option.some_or, Option.some.injEq] at hsucc
   rcases hv.inv with ⟨-, h1, -, -, -⟩ | ⟨g2, tl, rfl, hx4, hx5, hx6, hLe⟩
   ·omega
   ·refine jr ⟨?_⟩
    refine vec_ldC hv rfl (j := M.length) hz (by omega) ?_
    refine jr ⟨?_⟩
    by_cases hzu : z = u.k
    ·rw [if_pos hzu] at hsucc
     refine jr ⟨?_⟩
     refine jq ⟨?_⟩
     exact ⟨(k + 1, some ⟨g2, 0, none⟩, c1), ⟨by rw [hsucc]; rfl, rfl, rfl, rfl, trivial⟩, ⟨hkl, L, by rw [hsucc]; exact hv, hS.sub (kAb _ _)⟩, by simp; omega⟩
    ·rw [if_neg hzu] at hsucc
     refine jr ⟨?_⟩
     have hlN := congrArg List.length hsucc
     rw [kAa] at hlN
     (repeat (refine jt ⟨?_⟩; refine hS.st rfl rfl ?_; intro _ hS)); refine jt ⟨?_⟩
     refine hS.al ?_
     intro b6 w3 _ hS
     (repeat (refine jt ⟨?_⟩; refine hS.st rfl rfl ?_; intro _ hS)); refine jt ⟨?_⟩
     refine St.app (sz := 1) (m := 1) tblOk rfl rfl rfl rfl hS hv (news := [Str u.k]) (by rfl) (hS.arr (b := b6) (T' := []) (by simp)) (by rfl) (by show (_ + _) * 16 ≤ _; simp only [kAa, kAe, kAq] at *; omega) (by simp only [kAa, kAe, kAq] at *; omega) ?_
     intro a4 c4 L4 w4 hv4 hS
     refine jq ⟨?_⟩
     exact ⟨(k + 1, a4, c4), ⟨by rw [hlN]; rfl, rfl, rfl, rfl, trivial⟩, ⟨hkl, L4, by rw [hlN, hsucc, kAi]; exact hv4, hS.sub ((kAb _ _).trans (kAb _ _))⟩, by simp; omega⟩
 ·obtain rfl : k = l.length := by omega
  rw [kAr] at hv ⊢
  refine jq ⟨?_⟩
  exact ⟨a1, c1, L, rfl, hv, hS⟩
set_option maxHeartbeats 2000000 in
theorem CloneE_spec {w : World} {a : Option Addr} {c : Nat} {l : List EntM} (ha : Arr w [] a (l.flatMap entC)) (hl : l.length ≤ 16777216) :
  Cl Tryz.prog f_slices_Clone_api_Entry_api_Entry [.slice a l.length c] w fun v w' => ∃ a' c' L, v = .slice a' l.length c' ∧ Vec T_api_Entry 4 a' l.length c' (l.flatMap entC) L ∧ St w [] L w' := by
 have hS := St.start w
 have hol := entsC_len l
 refine en_slices_Clone_api_Entry_api_Entry rfl ?_
 rcases a with _ | p
 ·have hl : l = [] := by
   cases l with
   |nil => rfl
   |cons x l => obtain ⟨g, off, h, -⟩ := ha.get (j := 0) (by rw [hol, kAe]; omega); cases h
  subst hl
  refine jq ⟨?_⟩
  refine eqlSlNil tblOk rfl rfl ?_
  refine jq ⟨?_⟩
  exact ⟨_, _, [], rfl, Vec.nil, hS⟩
 ·refine jq ⟨?_⟩
  refine eqlSlNil tblOk rfl rfl ?_
  refine jq ⟨?_⟩
  refine hS.al ?_
  intro r w1 _ hS
  have hv : Vec T_api_Entry 4 (some ⟨r, 0, none⟩) 0 0 [] [(r, .cells ⟨[]⟩ T_api_Entry (0, 0))] := Vec.row r 0 0 [] [] rfl rfl (kAd _)
  refine jq ⟨?_⟩
  refine St.app (sz := 4) (m := l.length) tblOk rfl rfl rfl rfl hS hv (news := l.flatMap entC) (by rw [hol]) (hS.arrOld ha) (entsC_one l) (by show (_ + _) * 48 ≤ _; omega) (by omega) ?_
  intro a1 c1 L1 w2 hv hS
  rw [kBj, kBl] at hv
  rw [kBl]
  refine jq ⟨?_⟩
  exact ⟨a1, c1, L1, rfl, hv, hS⟩
end Go.Proofs.YtkgibdhpijdbfaaGreatDoor
namespace Go.Eng
open Go
theorem St.mkN {P : Program} {T0 : Tbl} (hT : TOk P T0) {t e : TypeId} {i ie : TI} (hi : tf T0 t = some i) (hk : i.k = .slice e 1) (hie : tf T0 e = some ie) (v : Value) (hz : ie.zero = v) (hc : v.cells = #[v]) (hb : ie.bytes ≤ 64) {w0 w : World} {T : List Nat} {H : Heap} (hS : St w0 T H w) (n : Nat) (hn : n ≤ 1099511627776)
  {K : Value → World → Prop} (h : ∀ b w', St w0 T ((b, .cells ⟨List.replicate n v⟩ e (0, 0)) :: H) w' → K (.slice (some ⟨b, 0, none⟩) n n) w') : RunG P (Instr.makeSlice t (.int .i64 (n : Int)) (.int .i64 (n : Int))) w K := by
 obtain ⟨inf, hinf, hzz, hs1, hby⟩ := info_of hT hie
 have ht := und_of hT hi; rw [hk] at ht
 have hsz : inf.size = 1 := by have := ht.2; rw [hinf] at this; simpa using this
 have hr := run_make w t e inf ie.zero ht.1 hinf hzz .i64 .i64 (n : Int) (n : Int) (by omega) (by omega) (by
  rw [hby]
  have : (ie.bytes : Int) * (n : Int) ≤ 64 * (n : Int) := Int.mul_le_mul_of_nonneg_right (by omega) (by omega)
  omega) (by omega)
 rw [hsz, hz, hc, Nat.mul_one, Int.toNat_natCast] at hr
 have e1 : madeCells #[v] n = ⟨List.replicate n v⟩ := Array.ext' (toList_madeCells_one v n)
 rw [e1] at hr
 exact RunG.of hr (h _ _ (hS.alloc _))
end Go.Eng
namespace Go.Proofs.YtkgibdhpijdbfaaGreatDoor
open Go Go.Eng Go.Proofs
@[irreducible] def stepB (h : Nat) (c : UInt8) : Nat := ((h ^^^ c.toNat) * 1099511628211) % 18446744073709551616
theorem stepB_lt (h : Nat) (c : UInt8) : stepB h c < 18446744073709551616 := by unfold stepB; exact kBn _ (by omega)
theorem hashB_step (k : Bytes) : k.foldl stepB 14695981039346656037 = hashB k := by
 unfold hashB
 congr 1
 funext h c
 unfold stepB
 rfl
theorem p64 : (2 : Nat) ^ IntKind.u64.bits = 18446744073709551616 := by decide
theorem mulP (x : Nat) : (x : Int) * 1099511628211 = ((x * 1099511628211 : Nat) : Int) := by simp
theorem wrapP (x : Nat) : IntKind.u64.wrap ((x * 1099511628211 : Nat) : Int) = ((x * 1099511628211 % 18446744073709551616 : Nat) : Int) := by
 rw [← p64]; exact wrapU .u64 rfl _
theorem xorP (h : Nat) (hh : h < 18446744073709551616) (c : UInt8) : xorI .u64 (h : Int) (IntKind.u64.wrap (c.toNat : Int)) = ((h ^^^ c.toNat : Nat) : Int) := by
 have hc := c.toNat_lt
 have h1 : c.toNat < 2 ^ IntKind.u64.bits := by rw [p64]; omega
 have h2 : h < 2 ^ IntKind.u64.bits := by rw [p64]; exact hh
 have e : IntKind.u64.wrap (c.toNat : Int) = ((c.toNat : Nat) : Int) := by rw [wrapU .u64 rfl, kBc h1]
 rw [e]
 exact xorU .u64 rfl _ _ h2 h1
theorem hash_step (h : Nat) (hh : h < 18446744073709551616) (c : UInt8) : IntKind.u64.wrap (xorI .u64 (h : Int) (IntKind.u64.wrap (c.toNat : Int)) * 1099511628211) = (stepB h c : Int) := by
 unfold stepB
 exact (congrArg (fun z => IntKind.u64.wrap (z * 1099511628211)) (xorP h hh c)).trans ((congrArg IntKind.u64.wrap (mulP _)).trans (wrapP _))
theorem Hash_spec (k : Bytes) (hk : k.length ≤ 1099511627776) (w : World) : Cl Tryz.prog f_bloom_Hash [Str k] w fun v w' => v = .int .u64 (hashB k) ∧ St w [] [] w' := by
 have hS := St.start w
 refine en_bloom_Hash rfl ?_
 refine jq ⟨?_⟩
 refine SemW.loop (fun i : Nat => [(0, Str k), (3, .int .u64 (((k.take i).foldl stepB 14695981039346656037 : Nat) : Int)), (6, .int .i64 k.length), (7, .int .i64 i)])
  (fun i w' => i ≤ k.length ∧ (k.take i).foldl stepB 14695981039346656037 < 18446744073709551616 ∧ St w [] [] w') (fun i => k.length - i) 0
  ⟨rfl, rfl, rfl, rfl, trivial⟩ ⟨kAg _, by simp, hS⟩ ?_
 clear hS
 rintro i w1 ⟨hi, hlt, hS⟩
 by_cases hil : i < k.length
 ·have hsucc : (k.take (i + 1)).foldl stepB 14695981039346656037 = stepB ((k.take i).foldl stepB 14695981039346656037) k[i] := by
   rw [kAn hil, kCn, kCd, List.foldl_nil]
  generalize (k.take i).foldl stepB 14695981039346656037 = h at hlt hsucc
  have hget : k.getD ((i : Int)).toNat 0 = k[i] := by rw [kCe, show ((i : Int)).toNat = i by omega, kAp hil]; rfl
  generalize k[i] = c at hget hsucc
  refine jq ⟨?_⟩
  rw [hget, hash_step h hlt c]
  refine jq ⟨?_⟩
  exact ⟨i + 1, ⟨rfl, by rw [hsucc]; rfl, rfl, rfl, trivial⟩, ⟨hil, by rw [hsucc]; exact stepB_lt _ _, hS⟩, by omega⟩
 ·obtain rfl : i = k.length := by omega
  rw [kAr, hashB_step]
  refine jq ⟨?_⟩
  exact ⟨rfl, hS⟩
def outB (k : Bytes) (m i : Nat) : List Value := (List.range 4).map fun j => intV (if j < i then (probeB k m j : Int) else 0)
theorem outB_get (k : Bytes) (m i j : Nat) (h : j < 4) : (outB k m i)[j]? = some (intV (if j < i then (probeB k m j : Int) else 0)) := by
 unfold outB; rw [kCo, List.getElem?_range h]; rfl
theorem outB_set (k : Bytes) (m i : Nat) (h : i < 4) : (outB k m i).set i (intV (probeB k m i)) = outB k m (i + 1) := by
 apply List.ext_getElem?
 intro j
 rw [List.getElem?_set]
 by_cases hj : j < 4
 ·rw [outB_get _ _ _ _ hj, outB_get _ _ _ _ hj]
  by_cases e : i = j
  ·subst e
   rw [if_pos rfl, if_pos (by simp [outB]; omega), if_pos (by omega)]
  ·rw [if_neg e]
   congr 2
   by_cases h1 : j < i
   ·rw [if_pos h1, if_pos (by omega)]
   ·rw [if_neg h1, if_neg (by omega)]
 ·rw [if_neg (by omega)]
  simp [outB, hj]
theorem outB_four (k : Bytes) (m : Nat) : outB k m 4 = [.int .i64 (probeB k m 0), .int .i64 (probeB k m 1), .int .i64 (probeB k m 2), .int .i64 (probeB k m 3)] := rfl
theorem probe_eq (a b i m : Nat) (ha : a < 4294967296) (hb : b < 4294967296) (hi : i < 4) : (IntKind.u64.wrap ((a : Int) + IntKind.u64.wrap ((i : Int) * (b : Int)))).tmod (m : Int) = (((a + i * b) % m : Nat) : Int) := by
 have h1 : i * b ≤ 3 * 4294967295 := Nat.mul_le_mul (by omega) (by omega)
 rw [show (i : Int) * (b : Int) = ((i * b : Nat) : Int) by simp, wrapU .u64 rfl, p64, kBc (by omega), show (a : Int) + ((i * b : Nat) : Int) = ((a + i * b : Nat) : Int) by simp, wrapU .u64 rfl, p64, kBc (by omega)]
 exact (Int.ofNat_tmod _ _).symm
set_option maxHeartbeats 2000000 in
theorem probes_spec (k : Bytes) (hk : k.length ≤ 1099511627776) (m : Nat) (hm : 0 < m ∧ m ≤ 1125899906842624) (w : World) : Cl Tryz.prog f_bloom_probes [Str k, .int .i64 m] w fun v w' => v = .agg ⟨[.int .i64 (probeB k m 0), .int .i64 (probeB k m 1), .int .i64 (probeB k m 2), .int .i64 (probeB k m 3)]⟩ ∧ St w [] [] w' := by
 have hS := St.start w
 refine en_bloom_probes rfl ?_
 refine jq ⟨?_⟩
 refine hS.al ?_
 intro b4 w1 _ hS
 refine jq ⟨?_⟩
 refine (Hash_spec k hk _).mono ?_
 rintro _ w2 ⟨rfl, hS'⟩
 have hS := hS.call0 hS'
 have hh := hashB_lt k
 refine jq ⟨?_⟩
 refine hS.al ?_
 intro b8 w3 _ hS
 refine jq ⟨?_⟩
 have e1 : andI .u64 (hashB k : Int) 4294967295 = ((hashB k % 4294967296 : Nat) : Int) := by
  have := andU .u64 rfl (hashB k) 4294967295 (by rw [p64]; exact hh) (by rw [p64]; omega)
  rw [show (4294967295 : Int) = ((4294967295 : Nat) : Int) from rfl, this]
  congr 1
  exact kDp (hashB k) 32
 have e2 : orI .u64 ((hashB k : Int).fdiv (2 ^ (min (32 : Int).toNat IntKind.u64.bits))) 1 = ((hashB k / 4294967296 ||| 1 : Nat) : Int) := by
  rw [show min (32 : Int).toNat IntKind.u64.bits = 32 from rfl, fdivP, show (1 : Int) = ((1 : Nat) : Int) from rfl]
  exact orU .u64 rfl (hashB k / 2 ^ 32) 1 (by rw [p64]; omega) (by rw [p64]; omega)
 have hb : (hashB k / 4294967296 ||| 1) < 2 ^ 32 := Nat.or_lt_two_pow (by omega) (by omega)
 have ha : hashB k % 4294967296 < 4294967296 := kBn _ (by omega)
 refine SemW.loop (fun i : Nat => [(1, .int .i64 m), (4, ptr b4), (6, .int .u64 ((hashB k % 4294967296 : Nat) : Int)), (7, .int .u64 ((hashB k / 4294967296 ||| 1 : Nat) : Int)), (8, ptr b8), (17, .int .i64 i)])
  (fun i w' => i ≤ 4 ∧ St w [] [(b8, .cells ⟨outB k m i⟩ T_4_int (0, 0)), (b4, .cells ⟨[.int .i64 0, .int .i64 0, .int .i64 0, .int .i64 0]⟩ T_4_int (0, 0))] w') (fun i => 4 - i) 0
  ⟨rfl, rfl, by rw [← e1]; rfl, by rw [← e2]; rfl, rfl, rfl, trivial⟩ ⟨by omega, hS⟩ ?_
 clear hS
 rintro i w4 ⟨hi, hS⟩
 have hpe := fun h => probe_eq (hashB k % 4294967296) (hashB k / 4294967296 ||| 1) i m ha hb h
 have hlt : probeB k m i < m := kBn _ hm.1
 change ∀ h, _ = ((probeB k m i : Nat) : Int) at hpe
 by_cases hi4 : i < 4
 ·refine jq ⟨?_⟩
  rw [hpe hi4]
  refine jq ⟨?_⟩
  refine hS.stI (off := 0 + ((i : Int)).toNat * 1) (l := outB k m i) (by rfl) (by simp [outB]; omega) ?_
  intro w5 hS
  rw [show 0 + ((i : Int)).toNat * 1 = i by omega, show Value.int .i64 (probeB k m i : Int) = intV (probeB k m i) from rfl, outB_set k m i hi4] at hS
  refine jq ⟨?_⟩
  exact ⟨i + 1, ⟨rfl, rfl, rfl, rfl, rfl, rfl, trivial⟩, ⟨hi4, hS⟩, by omega⟩
 ·obtain rfl : i = 4 := by omega
  rw [outB_four] at hS
  (repeat (refine jt ⟨?_⟩; refine hS.st rfl rfl ?_; intro _ hS)); refine jt ⟨?_⟩
  exact ⟨rfl, hS.sub (by simp)⟩
def u8V (n : Nat) : Value := .int .u8 n
theorem and7 (p : Nat) (hp : p < 4611686018427387904) : andI .i64 (p : Int) 7 = ((p % 8 : Nat) : Int) := by
 unfold andI
 have e : (BitVec.ofInt IntKind.i64.bits (p : Int) &&& BitVec.ofInt IntKind.i64.bits 7).toNat = p % 8 := by
  rw [BitVec.toNat_and]
  have h1 : (BitVec.ofInt IntKind.i64.bits (p : Int)).toNat = p := by
   rw [BitVec.ofInt_natCast, BitVec.toNat_ofNat]
   exact kBc (show p < 2 ^ 64 by omega)
  have h2 : (BitVec.ofInt IntKind.i64.bits 7).toNat = 7 := by decide
  rw [h1, h2]
  exact kDp p 3
 rw [e]
 have h8 : p % 8 < 8 := kBn _ (by omega)
 generalize p % 8 = q at h8
 have key : ∀ i : Fin 8, IntKind.i64.wrap ((i.val : Nat) : Int) = ((i.val : Nat) : Int) := by decide +kernel
 exact key ⟨q, h8⟩
theorem shr3 (p : Nat) : (p : Int).fdiv (2 ^ (min (3 : Int).toNat IntKind.i64.bits)) = ((p / 8 : Nat) : Int) := by
 rw [show min (3 : Int).toNat IntKind.i64.bits = 3 from rfl, fdivP]
theorem bit8 (q : Nat) (hq : q < 8) : IntKind.u8.wrap (1 * 2 ^ (min ((q : Nat) : Int).toNat IntKind.u8.bits)) = ((2 ^ q : Nat) : Int) := by
 have key : ∀ i : Fin 8, IntKind.u8.wrap (1 * 2 ^ (min ((i.val : Nat) : Int).toNat IntKind.u8.bits)) = ((2 ^ i.val : Nat) : Int) := by decide +kernel
 exact key ⟨q, hq⟩
set_option maxHeartbeats 2000000 in
theorem Build_spec {w : World} {a : Option Addr} {c : Nat} {keys : List Bytes} (ha : Arr w [] a (keys.map Str)) (hn : keys.length ≤ 16777216) (hk : ∀ k ∈ keys, k.length ≤ 1099511627776) :
  Cl Tryz.prog f_bloom_Build [.slice a keys.length c] w fun v w' => v = Str (bloomB keys) ∧ St w [] [] w' := by
 have hS := St.start w
 refine en_bloom_Build rfl ?_
 cases hke : keys with
 |nil =>
  subst hke
  refine jq ⟨?_⟩
  exact ⟨rfl, hS⟩
 |cons k0 ks =>
  rw [← hke]
  have h0 : 0 < keys.length := by rw [hke]; simp
  have hbl : bloomB keys = (bloomN keys).map UInt8.ofNat := by rw [hke]; rfl
  clear hke
  refine jq ⟨?_⟩
  rw [show (10 * (keys.length : Int) + 7).tdiv 8 = (((10 * keys.length + 7) / 8 : Nat) : Int) by rw [Int.tdiv_eq_ediv_of_nonneg (by omega)]; omega]
  have hnb : 0 < (10 * keys.length + 7) / 8 := by omega
  have hnb2 : (10 * keys.length + 7) / 8 ≤ 33554432 := by omega
  have hbn : bloomN keys = keys.foldl setsB (List.replicate ((10 * keys.length + 7) / 8) 0) := rfl
  generalize (10 * keys.length + 7) / 8 = nb at hnb hnb2 hbn ⊢
  refine jq ⟨?_⟩
  refine St.mkN tblOk (e := T_uint8) rfl rfl rfl (.int .u8 0) rfl rfl (by decide) hS nb (by omega) ?_
  intro b w1 hS
  refine jq ⟨?_⟩
  refine SemW.loop (fun i : Nat => [(3, .slice (some ⟨b, 0, none⟩) nb nb), (17, .slice a keys.length c), (18, .int .i64 keys.length), (19, .int .i64 i)])
   (fun i w' => i ≤ keys.length ∧ ∃ bits : List Nat, bits = (keys.take i).foldl setsB (List.replicate nb 0) ∧ bits.length = nb ∧ (∀ x ∈ bits, x < 256) ∧ St w [] [(b, .cells ⟨bits.map u8V⟩ T_uint8 (0, 0))] w') (fun i => keys.length - i) 0
   ⟨rfl, rfl, rfl, rfl, trivial⟩ ⟨kAg _, List.replicate nb 0, by simp, by simp, fun x hx => by rw [(List.mem_replicate.1 hx).2]; omega, by rw [List.map_replicate]; exact hS⟩ ?_
  clear hS
  rintro i w2 ⟨hi, bits, hbits, hbl2, hb256, hS⟩
  by_cases hil : i < keys.length
  ·have hx : (keys.map Str)[i]? = some (Str keys[i]) := by rw [kCo, kAp hil]; rfl
   obtain ⟨g, off, rfl, -, -⟩ := ha.get (j := i) (by rw [kAv]; exact hil)
   have hkl := hk keys[i] (kAx hil)
   have hsucc : (keys.take (i + 1)).foldl setsB (List.replicate nb 0) = setsB bits keys[i] := by
    rw [kAn hil, kCn, kCd, List.foldl_nil, ← hbits]
   generalize keys[i] = k at hx hkl hsucc
   refine jq ⟨?_⟩
   refine Arr.ldc hS ha hx (by simp) ?_
   refine jq ⟨?_⟩
   rw [show 8 * (nb : Int) = ((8 * nb : Nat) : Int) by omega]
   refine (probes_spec k hkl (8 * nb) (by omega) _).mono ?_
   rintro _ w3 ⟨rfl, hS'⟩
   have hS := hS.call0 hS'
   have hpr : probesB k (8 * bits.length) = [probeB k (8 * nb) 0, probeB k (8 * nb) 1, probeB k (8 * nb) 2, probeB k (8 * nb) 3] := by rw [hbl2]; rfl
   have hsucc : (keys.take (i + 1)).foldl setsB (List.replicate nb 0) = (probesB k (8 * bits.length)).foldl setB bits := hsucc
   rw [hpr] at hsucc
   have hp : ∀ j, probeB k (8 * nb) j < 8 * nb := fun j => kBn _ (by omega)
   refine jq ⟨?_⟩
   refine SemW.loop (fun j : Nat => [(3, .slice (some ⟨b, 0, none⟩) nb nb), (17, .slice (some ⟨g, off, none⟩) keys.length c), (18, .int .i64 keys.length), (19, .int .i64 i), (27, .agg ⟨[.int .i64 (probeB k (8 * nb) 0), .int .i64 (probeB k (8 * nb) 1), .int .i64 (probeB k (8 * nb) 2), .int .i64 (probeB k (8 * nb) 3)]⟩), (28, .int .i64 j)])
    (fun j w' => j ≤ 4 ∧ ∃ bs : List Nat, bs = ([probeB k (8 * nb) 0, probeB k (8 * nb) 1, probeB k (8 * nb) 2, probeB k (8 * nb) 3].take j).foldl setB bits ∧ bs.length = nb ∧ (∀ x ∈ bs, x < 256) ∧ St w [] [(b, .cells ⟨bs.map u8V⟩ T_uint8 (0, 0))] w') (fun j => 4 - j) 0
    ⟨rfl, rfl, rfl, rfl, rfl, rfl, trivial⟩ ⟨by omega, bits, rfl, hbl2, hb256, hS⟩ ?_
   clear hS hS'
   rintro j w4 ⟨hj, bs, hbs, hbsl, hbs256, hS⟩
   by_cases hj4 : j < 4
   ·have hfin : ∀ (j' : Nat) (w5 : World), j' = j + 1 → St w [] [(b, .cells ⟨(bs.map u8V).set (probeB k (8 * nb) j / 8) (u8V (bs.getD (probeB k (8 * nb) j / 8) 0 ||| 2 ^ (probeB k (8 * nb) j % 8)))⟩ T_uint8 (0, 0))] w5 →
      j' ≤ 4 ∧ ∃ bs : List Nat, bs = ([probeB k (8 * nb) 0, probeB k (8 * nb) 1, probeB k (8 * nb) 2, probeB k (8 * nb) 3].take j').foldl setB bits ∧ bs.length = nb ∧ (∀ x ∈ bs, x < 256) ∧ St w [] [(b, .cells ⟨bs.map u8V⟩ T_uint8 (0, 0))] w5 := by
     rintro _ w5 rfl hS
     refine ⟨hj4, setB bs (probeB k (8 * nb) j), ?_, by rw [setB_len]; exact hbsl, setB_lt hbs256 _, ?_⟩
     ·rw [hbs]
      match j, hj4 with
      |0, _ | 1, _ | 2, _ | 3, _ => rfl
     ·unfold setB
      rw [List.map_set]; exact hS
    have hpj := hp j
    have hgp : ([Value.int .i64 (probeB k (8 * nb) 0), .int .i64 (probeB k (8 * nb) 1), .int .i64 (probeB k (8 * nb) 2), .int .i64 (probeB k (8 * nb) 3)])[j]? = some (.int .i64 (probeB k (8 * nb) j)) := by
     match j, hj4 with
     |0, _ | 1, _ | 2, _ | 3, _ => rfl
    generalize probeB k (8 * nb) j = p at hpj hfin hgp
    have hp8 : p / 8 < nb := by omega
    have hgd : bs[p / 8]? = some (bs.getD (p / 8) 0) := by rw [kCe, kAp (by omega)]; rfl
    have hb256 : bs.getD (p / 8) 0 < 256 := hbs256 _ (List.mem_of_getElem? hgd)
    have h28 : 2 ^ (p % 8) < 2 ^ IntKind.u8.bits := Nat.pow_lt_pow_right (by omega) (kBn _ (by decide))
    refine jq ⟨?_⟩
    refine indexArr tblOk rfl rfl rfl rfl hj4 hgp ?_
    refine jq ⟨?_⟩
    rw [shr3]
    refine jq ⟨?_⟩
    refine hS.ld (v := .int .u8 (bs.getD (p / 8) 0 : Nat)) (by rw [show 0 + (((p / 8 : Nat) : Int)).toNat * 1 = p / 8 by omega, kCo, hgd]; rfl) ?_
    refine jq ⟨?_⟩
    rw [and7 p (by omega), wrapU .u64 rfl, p64, kBc (by omega)]
    have hq8 : p % 8 < 8 := kBn _ (by omega)
    refine jq ⟨?_⟩
    rw [bit8 (p % 8) hq8]
    refine jq ⟨?_⟩
    rw [orU .u8 rfl (bs.getD (p / 8) 0) (2 ^ (p % 8)) hb256 h28]
    refine jq ⟨?_⟩
    refine hS.stI (off := 0 + (((p / 8 : Nat) : Int)).toNat * 1) (l := bs.map u8V) (by rfl) (by rw [kAv]; omega) ?_
    intro w5 hS
    rw [show 0 + (((p / 8 : Nat) : Int)).toNat * 1 = p / 8 by omega] at hS
    refine jq ⟨?_⟩
    exact ⟨j + 1, ⟨rfl, rfl, rfl, rfl, rfl, rfl, trivial⟩, hfin _ _ rfl hS, by omega⟩
   ·obtain rfl : j = 4 := by omega
    refine jq ⟨?_⟩
    exact ⟨i + 1, ⟨rfl, rfl, rfl, rfl, trivial⟩, ⟨hil, bs, by show bs = (keys.take (i + 1)).foldl setsB _; rw [hsucc]; exact hbs, hbsl, hbs256, hS⟩, by omega⟩
  ·obtain rfl : i = keys.length := by omega
   rw [kAr] at hbits
   have e1 : (bloomB keys).map byteV = bits.map u8V := by
    rw [hbl, hbn, ← hbits, kBz]
    refine List.map_congr_left fun x hx => ?_
    have := hb256 x hx
    show Value.int .u8 ((UInt8.ofNat x).toNat : Int) = Value.int .u8 (x : Int)
    rw [UInt8.toNat_ofNat', kBc (by omega)]
   refine jq ⟨?_⟩
   refine toStr tblOk rfl rfl rfl rfl rfl rfl (T := []) (bs := bloomB keys) (by rw [← kAv (f := byteV), e1, kAv]; exact hbl2) (fun w' hw' => by subst hw'; rw [e1]; exact hS.arr (b := b) (T' := []) (by simp)) ?_
   refine jq ⟨?_⟩
   exact ⟨rfl, hS.nil⟩
theorem bit1 (x q : Nat) (hx : x < 256) (_hq : q < 8) : andI .u8 ((x : Int).fdiv (2 ^ (min ((q : Nat) : Int).toNat IntKind.u8.bits))) 1 = if x.testBit q then 1 else 0 := by
 have key : ∀ (i : Fin 256) (j : Fin 8), andI .u8 (((i.val : Nat) : Int).fdiv (2 ^ (min ((j.val : Nat) : Int).toNat IntKind.u8.bits))) 1 = if i.val.testBit j.val then 1 else 0 := by decide +kernel
 exact key ⟨x, hx⟩ ⟨q, _hq⟩
set_option maxHeartbeats 2000000 in
theorem May_spec (f k : Bytes) (hf : f.length ≤ 1099511627776) (hk : k.length ≤ 1099511627776) (w : World) : Cl Tryz.prog f_bloom_May [Str f, Str k] w fun v w' => v = .bool (mayB f k) ∧ St w [] [] w' := by
 have hS := St.start w
 refine en_bloom_May rfl ?_
 by_cases h0 : f = []
 ·subst h0
  refine jq ⟨?_⟩
  exact ⟨rfl, hS⟩
 ·have hpos : 0 < f.length := List.length_pos_iff.2 h0
  refine jq ⟨?_⟩
  rw [show 8 * (f.length : Int) = ((8 * f.length : Nat) : Int) by omega]
  refine (probes_spec k hk (8 * f.length) (by omega) _).mono ?_
  rintro _ w3 ⟨rfl, hS'⟩
  have hS := hS.call0 hS'
  have hp : ∀ j, probeB k (8 * f.length) j < 8 * f.length := fun j => kBn _ (by omega)
  have hmay : mayB f k = (List.range 4).all fun j => bitB (f.map UInt8.toNat) (probeB k (8 * f.length) j) := by
   unfold mayB probesB
   rw [decide_eq_false h0, List.all_map]
   rfl
  refine jq ⟨?_⟩
  refine SemW.loop (fun j : Nat => [(0, Str f), (13, .agg ⟨[.int .i64 (probeB k (8 * f.length) 0), .int .i64 (probeB k (8 * f.length) 1), .int .i64 (probeB k (8 * f.length) 2), .int .i64 (probeB k (8 * f.length) 3)]⟩), (14, .int .i64 j)])
   (fun j w' => (j ≤ 4 ∧ ∀ i, i < j → bitB (f.map UInt8.toNat) (probeB k (8 * f.length) i) = true) ∧ St w [] [] w') (fun j => 4 - j) 0
   ⟨rfl, rfl, rfl, trivial⟩ ⟨⟨by omega, fun i h => by omega⟩, hS⟩ ?_
  clear hS hS'
  rintro j w4 ⟨⟨hj, hall⟩, hS⟩
  by_cases hj4 : j < 4
  ·have hpj := hp j
   have hgp : ([Value.int .i64 (probeB k (8 * f.length) 0), .int .i64 (probeB k (8 * f.length) 1), .int .i64 (probeB k (8 * f.length) 2), .int .i64 (probeB k (8 * f.length) 3)])[j]? = some (.int .i64 (probeB k (8 * f.length) j)) := by
    match j, hj4 with
    |0, _ | 1, _ | 2, _ | 3, _ => rfl
   have hno : bitB (f.map UInt8.toNat) (probeB k (8 * f.length) j) = false → mayB f k = false := fun h => by
    rw [hmay, List.all_eq_false]
    exact ⟨j, List.mem_range.2 hj4, by rw [h]; simp⟩
   have hyes : bitB (f.map UInt8.toNat) (probeB k (8 * f.length) j) = true → ∀ i, i < j + 1 → bitB (f.map UInt8.toNat) (probeB k (8 * f.length) i) = true := fun h i hi => by
    by_cases e : i = j
    ·subst e; exact h
    ·exact hall i (by omega)
   generalize probeB k (8 * f.length) j = p at hpj hgp hno hyes
   have hp8 : p / 8 < f.length := by omega
   have hbit : bitB (f.map UInt8.toNat) p = ((f.getD (p / 8) 0).toNat).testBit (p % 8) := by
    unfold bitB
    rw [kCe, kCe, kCo, kAp hp8]
    rfl
   rw [hbit] at hno hyes
   refine jq ⟨?_⟩
   refine indexArr tblOk rfl rfl rfl rfl hj4 hgp ?_
   refine jq ⟨?_⟩
   rw [shr3]
   refine jq ⟨?_⟩
   rw [and7 p (by omega), wrapU .u64 rfl, p64, kBc (by omega), show ((((p / 8 : Nat) : Int))).toNat = p / 8 by omega]
   have hq8 : p % 8 < 8 := kBn _ (by omega)
   refine jq ⟨?_⟩
   rw [bit1 _ _ (UInt8.toNat_lt _) hq8]
   cases htb : ((f.getD (p / 8) 0).toNat).testBit (p % 8) with
   |true =>
    rw [if_pos rfl]
    refine jq ⟨?_⟩
    exact ⟨j + 1, ⟨rfl, rfl, rfl, trivial⟩, ⟨⟨by omega, hyes htb⟩, hS⟩, by omega⟩
   |false =>
    rw [if_neg (by simp)]
    refine jq ⟨?_⟩
    exact ⟨by rw [hno htb], hS⟩
  ·obtain rfl : j = 4 := by omega
   have hy : mayB f k = true := by
    rw [hmay, kBd]
    exact fun i hi => hall i (List.mem_range.1 hi)
   rw [hy]
   refine jq ⟨?_⟩
   exact ⟨rfl, hS⟩
end Go.Proofs.YtkgibdhpijdbfaaGreatDoor
namespace Go.Proofs.YtkgibdhpijdbfaaGreatDoor
open Go Go.Eng Go.Proofs Go.Srt
set_option maxHeartbeats 2000000 in
theorem Merge_spec {w : World} {a : Option Addr} {c : Nat} {xs : List Value} {ls : List (List EntM)} (ha : Arr w [] a xs) (hL : LsIn w xs ls) (hl : ls.length ≤ 1099511627776) (hn : ls.flatten.length ≤ 16777216) (h1 : OneE ls.flatten) :
  Cl Tryz.prog f_merge_Merge [.slice a ls.length c] w fun v w' => ∃ r a' c' L, r.Perm ls.flatten ∧ Rise r ∧ v = .slice a' r.length c' ∧ Vec T_api_Entry 4 a' r.length c' (r.flatMap entC) L ∧ St w [] L w' := by
 refine en_merge_Merge rfl ?_
 refine jq ⟨?_⟩
 refine (Concat_spec ha hL hl hn).mono ?_
 rintro _ w1 ⟨a1, c1, L, rfl, hv, hS⟩
 have hcl := entsC_len ls.flatten
 rcases hv.inv with ⟨rfl, hl0, rfl, -, rfl⟩ | ⟨g, tl, rfl, -, hc2, hc1, rfl⟩
 ·have hf : ls.flatten = [] := kCh.1 hl0
  rw [hf]
  refine jq ⟨?_⟩
  refine sortNil_api_Entry.mono ?_
  intro _ w2 hS'
  have hS := hS.call0 hS'
  refine jq ⟨?_⟩
  refine (Compact_spec (l := []) (Arr.nil _ _ _) List.Pairwise.nil (kAg _)).mono ?_
  rintro _ w3 ⟨rfl, hS'⟩
  have hS := hS.call0 hS'
  refine jq ⟨?_⟩
  exact ⟨[], none, 0, [], List.Perm.refl _, List.Pairwise.nil, rfl, Vec.nil, hS⟩
 ·refine jq ⟨?_⟩
  refine (sortStable_api_Entry ordE merge_compare_spec hS.holds rfl hn).mono ?_
  rintro _ w2 ⟨r, hp, hs, hS'⟩
  have hS := hS.call1 hS'
  have hr : Rise r := rise_srt hs (h1.perm hp.symm)
  have hlen := hp.length_eq
  have hcr := entsC_len r
  have hv : Vec T_api_Entry 4 (some ⟨g, 0, none⟩) r.length c1 (r.flatMap entC) [(g, .cells ⟨r.flatMap entC ++ tl⟩ T_api_Entry (0, 0))] :=
   Vec.row g _ c1 _ tl hcr (by omega) (by omega)
  rw [← hlen]
  refine jq ⟨?_⟩
  refine (Compact_spec (hv.arr hS (T' := []) (by simp)) hr (by omega)).mono ?_
  rintro _ w3 ⟨rfl, hS'⟩
  have hS := hS.call0 hS'
  refine jq ⟨?_⟩
  exact ⟨r, _, _, _, hp, hr, rfl, hv, hS⟩
def newF (b : Nat) : Value := .func (.func f_merge_newest_1) ⟨[]⟩ ⟨[ptr b]⟩
theorem newF_spec {w : World} {b : Nat} {t : Int} (hb : w.cell? ⟨b, 0, none⟩ = some (.int .i64 t)) (x : EntM) : Cl Tryz.prog f_merge_newest_1 [entV x, ptr b] w fun v w' => v = .bool (decide (x.s ≤ t)) ∧ St w [] [] w' := by
 have hS := St.start w
 unfold entV entC
 refine en_merge_newest_1 rfl ?_
 refine jq ⟨?_⟩
 refine hS.al ?_
 intro b2 w2 _ hS
 (repeat (refine jt ⟨?_⟩; refine hS.st rfl rfl ?_; intro _ hS)); refine jt ⟨?_⟩
 refine hS.ldOld (by simp) hb ?_
 refine jq ⟨?_⟩
 exact ⟨rfl, hS.nil⟩
def newV (t : Int) (g : List EntM) : Int := match newI t g with | none => -1 | some i => (i : Int)
set_option maxHeartbeats 2000000 in
theorem IndexFunc_spec {w : World} {a : Option Addr} {c b : Nat} {l : List EntM} {t : Int} (ha : Arr w [] a (l.flatMap entC)) (hb : w.cell? ⟨b, 0, none⟩ = some (.int .i64 t)) (hl : l.length ≤ 1099511627776) :
  Cl Tryz.prog f_slices_IndexFunc_api_Entry_api_Entry [.slice a l.length c, newF b] w fun v w' => v = .int .i64 (newV t l) ∧ St w [] [] w' := by
 have hS := St.start w
 refine en_slices_IndexFunc_api_Entry_api_Entry rfl ?_
 refine jq ⟨?_⟩
 refine SemW.loop (fun k : Nat => [(0, .slice a l.length c), (1, newF b), (7, .int .i64 l.length), (8, .int .i64 k)])
  (fun k w' => (k ≤ l.length ∧ ∀ i (h : i < l.length), i < k → ¬ l[i].s ≤ t) ∧ St w [] [] w') (fun k => l.length - k) 0
  ⟨rfl, rfl, rfl, rfl, trivial⟩ ⟨⟨kAg _, fun i _ h => by omega⟩, hS⟩ ?_
 clear hS
 rintro k w1 ⟨⟨hk, hno⟩, hS⟩
 by_cases hkl : k < l.length
 ·obtain ⟨g, off, rfl, hx⟩ := ent_at ha hkl
  have hfn : newI t l = some k ↔ l[k].s ≤ t := by
   unfold newI
   rw [kDo]
   constructor
   ·rintro ⟨h, h1, _⟩; simpa using h1
   ·intro h1
    exact ⟨hkl, by simpa using h1, fun j hj => by simpa using hno j (by omega) hj⟩
  have hsucc : ¬ l[k].s ≤ t → ∀ i (h : i < l.length), i < k + 1 → ¬ l[i].s ≤ t := fun h i hi hik => by
   by_cases e : i = k
   ·subst e; exact h
   ·exact hno i hi (by omega)
  generalize hu : l[k] = u at hx hfn hsucc
  unfold newF
  refine jq ⟨?_⟩
  refine ldnW (cs := [Str u.k, .int .i64 u.s, .bool u.d, Str u.v]) rfl (fun j x hj => hS.oldCell (by simp) (by have := hx j x hj; rw [show off + ((k : Int)).toNat * 4 + j = off + k * 4 + j by omega]; exact this)) ?_
  refine jq ⟨?_⟩
  refine (newF_spec (hS.oldCell (by simp) hb) u).mono ?_
  rintro _ w2 ⟨rfl, hS'⟩
  have hS := hS.call0 hS'
  by_cases hut : u.s ≤ t
  ·unfold newV
   rw [hfn.2 hut]
   refine jq ⟨?_⟩
   exact ⟨rfl, hS⟩
  ·refine jq ⟨?_⟩
   exact ⟨k + 1, ⟨rfl, rfl, rfl, rfl, trivial⟩, ⟨⟨by omega, hsucc hut⟩, hS⟩, by omega⟩
 ·have hnone : newI t l = none := by
   unfold newI
   rw [List.findIdx?_eq_none_iff]
   intro x hx
   obtain ⟨i, hi, rfl⟩ := kCy.1 hx
   simpa using hno i hi (by omega)
  unfold newV
  rw [hnone]
  refine jq ⟨?_⟩
  exact ⟨rfl, hS⟩
theorem newest_spec {w : World} {a : Option Addr} {c : Nat} {l : List EntM} {t : Int} (ha : Arr w [] a (l.flatMap entC)) (hl : l.length ≤ 1099511627776) :
  Cl Tryz.prog f_merge_newest [.slice a l.length c, .int .i64 t] w fun v w' => v = .int .i64 (newV t l) ∧ St w [] [] w' := by
 have hS := St.start w
 refine en_merge_newest rfl ?_
 refine jq ⟨?_⟩
 refine hS.al ?_
 intro b w1 _ hS
 refine jq ⟨?_⟩
 refine RunG.of rfl ?_
 refine jq ⟨?_⟩
 refine (IndexFunc_spec (hS.arrOld ha) (hS.cell (b := b) rfl) hl).mono ?_
 rintro _ w2 ⟨rfl, hS'⟩
 have hS := hS.call0 hS'
 refine jq ⟨?_⟩
 exact ⟨rfl, hS.nil⟩
theorem grpE_run : ∀ (A : List EntM) (x : EntM) (B : List EntM), (∀ y ∈ A, y.k = x.k) → (∀ y ∈ B.head?, y.k ≠ x.k) → grpE (x :: A ++ B) = (x :: A) :: grpE B
 |[], x, [], _, _ => rfl
 |[], x, y :: B, _, h => by
  rw [kBe, kBj, grpE_cons, if_neg (h y (by simp))]
 |z :: A, x, B, ha, hb => by
  have hz := ha z kAt
  have ih := grpE_run A z B (fun y hy => (ha y (kAs _ hy)).trans hz.symm) (fun y hy => by rw [hz]; exact hb y hy)
  rw [kBe, kBe, grpE_cons, if_pos hz, ← kBe, ih]
theorem grpE_len : ∀ l, (grpE l).length ≤ l.length
 |[] => kAd _
 |x :: l => by
  have ih := grpE_len l
  unfold grpE
  split
  ·simp
  ·rename_i h; rw [h] at ih; simp only [kAe] at ih ⊢; split <;> simp only [kAe] <;> omega
theorem LsIn.snoc {w : World} {a : Option Addr} {c : Nat} {l : List EntM} {xs : List Value} {ls : List (List EntM)} (h : LsIn w xs ls) (ha : Arr w [] a (l.flatMap entC)) (hc : l.length ≤ c) : LsIn w (xs ++ [.slice a l.length c]) (ls ++ [l]) := by
 induction h with
 |nil => exact .cons ha hc .nil
 |cons ha' hc' _ ih => exact .cons ha' hc' ih
theorem part_arr {w : World} {T : List Nat} {g off c : Nat} {l : List EntM} (ha : Arr w T (some ⟨g, off, none⟩) (l.flatMap entC)) (hc : l.length ≤ c) {p n : Nat} (hp : p + n ≤ l.length) :
  Arr w T (subA g off p c 4) (((l.drop p).take n).flatMap entC) := by
 have e1 : l.flatMap entC = (l.take p).flatMap entC ++ (l.drop p).flatMap entC := by rw [← ents_app, kAu]
 rw [e1] at ha
 have hlen := entsC_len (l.take p)
 rw [kAo, Nat.min_eq_left (by omega)] at hlen
 have h1 := ha.dropS (k := p) (sz := 4) (cap := c) hlen (fun h => by
  rcases Nat.lt_or_ge p l.length with h2 | h2
  ·omega
  ·rw [List.drop_eq_nil_of_le h2] at h; exact absurd rfl h)
 rw [← kAu n (l.drop p), ents_app] at h1
 exact Arr.take h1
set_option maxHeartbeats 4000000 in
theorem groups_spec {w : World} {a : Option Addr} {c : Nat} {l : List EntM} (ha : Arr w [] a (l.flatMap entC)) (hc : l.length ≤ c) (hl : l.length ≤ 16777216) :
  Cl Tryz.prog f_merge_groups [.slice a l.length c] w fun v w' => ∃ a' c' xs L, v = .slice a' (grpE l).length c' ∧ LsIn w xs (grpE l) ∧ Vec T_Sl_api_Entry 1 a' (grpE l).length c' xs L ∧ St w [] L w' := by
 have hS := St.start w
 have hgl := grpE_len l
 refine en_merge_groups rfl ?_
 refine jq ⟨?_⟩
 refine SemW.loop (fun i : Nat × Nat × Nat × Option Addr × Nat => [(0, .slice a l.length c), (3, .slice i.2.2.2.1 i.2.2.1 i.2.2.2.2), (4, .int .i64 i.2.1), (7, .int .i64 l.length), (8, .int .i64 i.1)])
  (fun i w' => i.1 ≤ l.length ∧ i.2.1 ≤ i.1 ∧ (i.1 = l.length → i.2.1 = i.1) ∧ (∀ j (hj : j < l.length) (hi : i.2.1 < l.length), i.2.1 ≤ j → j ≤ i.1 → l[j].k = l[i.2.1].k) ∧
   ∃ gs xs L, gs ++ grpE (l.drop i.2.1) = grpE l ∧ gs.length = i.2.2.1 ∧ LsIn w xs gs ∧ Vec T_Sl_api_Entry 1 i.2.2.2.1 i.2.2.1 i.2.2.2.2 xs L ∧ St w [] L w') (fun i => l.length - i.1) (0, 0, 0, none, 0)
  ⟨rfl, rfl, rfl, rfl, rfl, trivial⟩ ⟨kAg _, kAd _, fun _ => rfl, fun j hj hi h1 h2 => (by have : j = 0 := Nat.le_zero.1 h2; subst this; rfl), [], [], [], by simp, rfl, .nil, Vec.nil, hS⟩ ?_
 clear hS
 rintro ⟨k, p, n, a1, c1⟩ w1 ⟨hk, hp, hend, hsame, gs, xs, L, hgs, hn, hL, hv, hS⟩
 simp only at hk hp hend hsame hn hgs hv hS ⊢
 by_cases hkl : k < l.length
 ·obtain ⟨g, off, rfl, hx⟩ := ent_at ha hkl
  have hgl2 := congrArg List.length hgs
  rw [kAa] at hgl2
  refine jq ⟨?_⟩
  refine SemW.draw tblOk mixed (fun w' => St w _ _ w') [] [0, 1, 2, 3, 4, 5, 6, 7, 8, 9, 10, 11, 12, 13, 14, 15, 16, 17, 18] (by kernel_rfl) hS.drew ?_
  have hS := hS.drew
  have hpl : p < l.length := by omega
  have hm : ((l.drop p).take (k + 1 - p)).length = k + 1 - p := by rw [kAo, kBf]; omega
  have hLn : LsIn w (xs ++ [.slice (subA g off p c 4) (k + 1 - p) (c - p)]) (gs ++ [(l.drop p).take (k + 1 - p)]) := by
   have := hL.snoc (part_arr ha hc (p := p) (n := k + 1 - p) (by omega)) (c := c - p) (by rw [hm]; omega)
   rw [hm] at this; exact this
  have hcut : (∀ y ∈ (l.drop (k + 1)).head?, y.k ≠ l[p].k) → (gs ++ [(l.drop p).take (k + 1 - p)]) ++ grpE (l.drop (k + 1)) = grpE l := fun hy => by
   rw [← hgs, kAc]
   congr 1
   have e1 : l.drop p = (l.drop p).take (k + 1 - p) ++ l.drop (k + 1) := by
    conv => lhs; rw [← kAu (k + 1 - p) (l.drop p), List.drop_drop, show p + (k + 1 - p) = k + 1 by omega]
   have e2 : (l.drop p).take (k + 1 - p) = l[p] :: (l.drop (p + 1)).take (k - p) := by
    rw [kBs hpl, show k + 1 - p = (k - p) + 1 by omega, List.take_succ_cons]
   conv => rhs; rw [e1, e2]
   rw [e2, grpE_run _ _ _ _ hy]
   ·rfl
   ·intro y hy
    obtain ⟨j, hj, rfl⟩ := kCy.1 hy
    rw [kAo, kBf] at hj
    rw [List.getElem_take, List.getElem_drop]
    exact hsame _ (by omega) hpl (by omega) (by omega)
  by_cases hkn : k + 1 < l.length
  ·obtain ⟨g', o', h1, hy⟩ := ent_at ha hkn
   simp only [Option.some.injEq, Addr.mk.injEq, and_true] at h1
   obtain ⟨rfl, rfl⟩ := h1
   have hkk := hsame k hkl hpl hp (kAd _)
   generalize hv2 : l[k + 1] = v at hy
   generalize hu : l[k] = u at hx hkk
   refine jr ⟨?_⟩
   refine hS.ldOldC (by simp) (by have := hy 0 _ rfl; rw [show off + ((k : Int) + 1).toNat * 4 + 0 = off + (k + 1) * 4 + 0 by omega]; exact this) ?_
   refine jr ⟨?_⟩
   refine hS.ldOldC (by simp) (by have := hx 0 _ rfl; rw [show off + ((k : Int)).toNat * 4 + 0 = off + k * 4 + 0 by omega]; exact this) ?_
   refine jr ⟨?_⟩
   have hd : ∀ y ∈ (l.drop (k + 1)).head?, y = v := fun y hy => by
    rw [List.head?_drop, kAp hkn, hv2] at hy; simpa using hy.symm
   by_cases hvu : v.k = u.k
   ·refine jq ⟨?_⟩
    exact ⟨(k + 1, p, n, a1, c1), ⟨rfl, rfl, rfl, rfl, rfl, trivial⟩, ⟨by omega, Nat.le_succ_of_le hp, fun h => absurd h (Nat.ne_of_lt hkn), fun j hj hi h1 h2 => (by
     rcases Nat.lt_or_ge j (k + 1) with h | h
     ·exact hsame j hj hi h1 (Nat.le_of_lt_succ h)
     ·have : j = k + 1 := Nat.le_antisymm h2 h
      subst this
      exact (congrArg EntM.k hv2).trans (hvu.trans hkk)), gs, xs, L, hgs, hn, hL, hv, hS⟩, by simp; omega⟩
   ·have hcat := hcut (fun y hy => by rw [hd y hy, ← hkk]; exact hvu)
    refine jq ⟨?_⟩
    refine hS.al ?_
    intro b2 w2 _ hS
    refine jq ⟨?_⟩
    refine St.app (sz := 1) (m := 1) tblOk rfl rfl rfl rfl hS hv (news := [.slice (subA g off p c 4) (k + 1 - p) (c - p)]) (by rfl) (by
     have := hS.arr (b := b2) (T' := []) (by simp)
     rw [show ((p : Int)).toNat = p by omega, show ((k : Int) + 1).toNat = k + 1 by omega] at this
     exact this) (by rfl) (by show (_ + _) * 24 ≤ _; omega) (by omega) ?_
    intro a4 c4 L4 w4 hv4 hS
    refine jq ⟨?_⟩
    exact ⟨(k + 1, k + 1, n + 1, a4, c4), ⟨rfl, rfl, rfl, rfl, rfl, trivial⟩, ⟨by omega, kAd _, fun _ => rfl, fun j hj hi h1 h2 => (by have : j = k + 1 := Nat.le_antisymm h2 h1; subst this; rfl), gs ++ [(l.drop p).take (k + 1 - p)], xs ++ [.slice (subA g off p c 4) (k + 1 - p) (c - p)], L4, hcat, by simp [hn], hLn, hv4, hS.sub (kAb _ _)⟩, by simp; omega⟩
  ·have hcat := hcut (by rw [List.drop_eq_nil_of_le (by omega)]; simp)
   refine jr ⟨?_⟩
   refine jq ⟨?_⟩
   refine hS.al ?_
   intro b2 w2 _ hS
   refine jq ⟨?_⟩
   refine St.app (sz := 1) (m := 1) tblOk rfl rfl rfl rfl hS hv (news := [.slice (subA g off p c 4) (k + 1 - p) (c - p)]) (by rfl) (by
    have := hS.arr (b := b2) (T' := []) (by simp)
    rw [show ((p : Int)).toNat = p by omega, show ((k : Int) + 1).toNat = k + 1 by omega] at this
    exact this) (by rfl) (by show (_ + _) * 24 ≤ _; omega) (by omega) ?_
   intro a4 c4 L4 w4 hv4 hS
   refine jq ⟨?_⟩
   exact ⟨(k + 1, k + 1, n + 1, a4, c4), ⟨rfl, rfl, rfl, rfl, rfl, trivial⟩, ⟨by omega, kAd _, fun _ => rfl, fun j hj hi h1 h2 => (by have : j = k + 1 := Nat.le_antisymm h2 h1; subst this; rfl), gs ++ [(l.drop p).take (k + 1 - p)], xs ++ [.slice (subA g off p c 4) (k + 1 - p) (c - p)], L4, hcat, by simp [hn], hLn, hv4, hS.sub (kAb _ _)⟩, by simp; omega⟩
 ·obtain rfl : k = l.length := by omega
  obtain rfl := hend rfl
  rw [kCt] at hgs
  simp only [grpE, kAk] at hgs
  subst hgs
  subst hn
  refine jq ⟨?_⟩
  exact ⟨a1, c1, xs, L, rfl, hL, hv, hS⟩
end Go.Proofs.YtkgibdhpijdbfaaGreatDoor
namespace Go.Eng
open Go
section
variable {P : Program} {ops : Array Oper} {Q : Exit → Act → World → Prop} {md : Region.Mode} {S : Nat → World → World → Prop}
def wpAnyR (P : Program) (md : Region.Mode) (ops : Array Oper) (Q : Exit → Act → World → Prop) (S : Nat → World → World → Prop) : Nat → Array Bool → Act → World → Prop
 |0, listed, a, w => Region.ready md ops listed = [] ∧ Q .normal a w
 |fuel + 1, listed, a, w =>
  (Region.ready md ops listed = [] → Q .normal a w) ∧
  ∀ i ∈ Region.ready md ops listed, wpOp P ops Q i (fun a' w' => S i w w' ∧ wpAnyR P md ops Q S fuel (listed.setIfInBounds i true) a' w') a w
theorem wpAny_of_R : ∀ (fuel : Nat) (listed : Array Bool) (a : Act) (w : World), wpAnyR P md ops Q S fuel listed a w → wpAny P md ops Q fuel listed a w
 |0, _, _, _, h => h
 |fuel + 1, _, _, _, h => ⟨h.1, fun i hi => wpOp_mono (fun a' w' h' => wpAny_of_R fuel _ a' w' h'.2) (h.2 i hi)⟩
theorem wpAnyR_first {C : World → Prop} {n i : Nat} {oi : Oper} {v : Value} (hi : ops[i]? = some oi) (hsel : ∀ (j : Nat) (o : Oper) cs b, ops[j]? = some o → o.op ≠ .select cs b)
  (hQ : ∀ c a w, Q (.panic c) (a.put oi.dst v) w → Q (.panic c) a w) (hSi : ∀ w, S i w w) :
  ∀ (fuel : Nat) (listed : Array Bool) (a : Act) (w : World), Closed ops listed →
   (∀ j oj, ops[j]? = some oj → j ≠ i → listed.getD j true = false → dep ops n j i = false → oi.apart ops oj = true ∧ ∀ w1 w2, C w1 → S j w1 w2 → C w2) →
   i ∈ Region.ready .any ops listed → YieldsIf P ops C oi v a → C w →
   wpAnyR P .any ops Q S fuel (listed.setIfInBounds i true) (a.put oi.dst v) w → wpAnyR P .any ops Q S (fuel + 1) listed a w := by
 intro fuel
 induction fuel with
 |zero =>
  intro listed a w _ _ hr hy hS H
  refine ⟨fun h => (by rw [h] at hr; cases hr), fun j hj => ?_⟩
  by_cases hji : j = i
  ·subst hji; exact hy.wpOp hi hS ⟨hSi _, H⟩
  ·have := ready_mono hj hji
   rw [H.1] at this
   cases this
 |succ fuel ih =>
  intro listed a w hcl hfree hr hy hS H
  refine ⟨fun h => (by rw [h] at hr; cases hr), fun j hj => ?_⟩
  by_cases hji : j = i
  ·subst hji; exact hy.wpOp hi hS ⟨hSi _, H⟩
  ·have h1 := H.2 j (ready_mono hj hji)
   obtain ⟨hjun, oj, hoj, hall⟩ := mem_ready.1 hj
   have hnot := ready_not_dep (n := n) hcl (mem_ready.1 hr).1 hj
   obtain ⟨hap, hkeep⟩ := hfree j oj hoj hji hjun hnot
   have h2 := wpOp_putIf hoj hap (fun cs b => hsel i oi cs b hi) (fun cs b => hsel j oj cs b hoj) hQ hy h1
   have hfree' : ∀ k ok, ops[k]? = some ok → k ≠ i → (listed.setIfInBounds j true).getD k true = false →
     dep ops n k i = false → oi.apart ops ok = true ∧ ∀ w1 w2, C w1 → S k w1 w2 → C w2 := fun k ok hk hki hun hno => by
    refine hfree k ok hk hki ?_ hno
    by_cases hjk : j = k
    ·subst hjk; exact hjun
    ·rw [getD_set_ne true hjk] at hun; exact hun
   refine wpOp_mono (fun a' w' h3 => ⟨h3.2.1, ih (listed.setIfInBounds j true) a' w' (hcl.set hj) hfree' (ready_mono hr (Ne.symm hji)) h3.1 (hkeep _ _ hS h3.2.1) ?_⟩) h2
   rw [Array.setIfInBounds_comm _ _ hji]
   exact h3.2.2
end
abbrev Grew (w w' : World) : Prop := St w [] [] w'
theorem Grew.refl (w : World) : Grew w w := St.start w
theorem Grew.trans {w w1 w2 : World} (h : Grew w w1) (h' : Grew w1 w2) : Grew w w2 := St.call0 h h'
def grewS (fin : List Nat) (i : Nat) (w w' : World) : Prop := i ∈ fin ∨ Grew w w'
theorem St.alG {w0 w : World} {T : List Nat} {H : Heap} (hS : St w0 T H w) {o : Obj} {K : Nat → World → Prop} (h : ∀ b w', Grew w w' → St w0 T ((b, o) :: H) w' → K b w') : AllG w o K :=
 ⟨h _ _ ((St.start w).alloc o).nil (hS.alloc o)⟩
theorem St.ldG {w0 w : World} {T : List Nat} {H : Heap} {b off : Nat} {l : List Value} {t : TypeId} {fz : Nat × Nat} {F : Obj → Heap} (hS : St w0 T H w) [Slot H b (.cells ⟨l⟩ t fz) F] {v : Value} (hv : l[off]? = some v)
  {K : Value → Prop} (hk : K v) : LdC (Grew w) ⟨b, off, none⟩ K :=
 ⟨⟨v, fun _ h => h.oldCell (by simp) (hS.cell hv), hk⟩⟩
theorem St.ldnG {w0 w : World} {T : List Nat} {H : Heap} {n b off : Nat} {l : List Value} {t : TypeId} {fz : Nat × Nat} {F : Obj → Heap} (hS : St w0 T H w) [Slot H b (.cells ⟨l⟩ t fz) F] (hn : Nat.ble (off + n) l.length = true)
  {K : List Value → Prop} (hk : forceL ((l.drop off).take n) K) : LdN (Grew w) n b off K := by
 have hle := kDm hn
 refine ⟨⟨_, by simp; omega, fun _ h j v hv => ?_, (forceL_iff _ _).1 hk⟩⟩
 refine h.oldCell (by simp) (hS.cell ?_)
 rw [kCw] at hv
 split at hv
 ·rw [kCv] at hv; exact hv
 ·cases hv
def takeOK (ops : Array Oper) (kd : Op → OpKind) (fin : List Nat) (listed : Array Bool) (i : Nat) : Bool := match ops[i]? with
 |none => false
 |some o => (match kd o.op with | .eff => false | _ => true) && (Region.ready .any ops listed).contains i && free' ops listed i && !fin.elem i && finWait ops listed fin i
structure DrawG (P : Program) (T : Tbl) (N : Nat) (all : List Oper) (fin : List Nat) (Q : Exit → Env → World → Prop) (n : Nat) (listed : Array Bool) (e : Env) (w : World) : Prop where
 out : ∀ a, Closed ⟨all⟩ listed → Rel [] N e a → wpAnyR P .any ⟨all⟩ (lift N Q) (grewS fin) n listed a w
def vcT (P : Program) (T : Tbl) (N : Nat) (all : List Oper) (fin : List Nat) (Q : Exit → Env → World → Prop) (n : Nat) : List Nat → Array Bool → Env → World → Prop
 |[], listed, e, w => DrawG P T N all fin Q n listed e w
 |i :: r, listed, e, w => atK all i fun o => grdG all o.guard e
  (fun e => match kind T o.op with
   |.pure => pureG P T e o.op fun v => putE N o.dst v e fun e' => vcT P T N all fin Q n r (listed.setIfInBounds i true) e' w
   |.read => readG P T e (Grew w) o fun v => putE N o.dst v e fun e' => vcT P T N all fin Q n r (listed.setIfInBounds i true) e' w
   |.eff => False)
  (fun e => putE N o.dst undef e fun e' => vcT P T N all fin Q n r (listed.setIfInBounds i true) e' w)
def takesOK (ops : Array Oper) (kd : Op → OpKind) (fin : List Nat) : List Nat → Array Bool → Bool
 |[], _ => true
 |i :: r, listed => takeOK ops kd fin listed i && takesOK ops kd fin r (listed.setIfInBounds i true)
section
variable {P : Program} {T : Tbl} (hT : TOk P T) {N : Nat} {all : List Oper} {fin : List Nat} {Q : Exit → Env → World → Prop}
include hT
theorem DrawG.takes (hsel : Region.noSelect ⟨all⟩ = true) (n : Nat) : ∀ (is : List Nat) {listed : Array Bool} {e : Env} {w : World} (_h : takesOK ⟨all⟩ (kind T) fin is listed = true) (_g : vcT P T N all fin Q n is listed e w), DrawG P T N all fin Q (n + is.length) listed e w
 |[], _, _, _, _, g => g
 |i :: r, listed, e, w, h, g => by
  refine ⟨fun a hcl hr => ?_⟩
  simp only [takesOK, Bool.and_eq_true] at h
  obtain ⟨h1, h2⟩ := h
  obtain ⟨o, ho, g⟩ := atK_iff g
  have ho' : (Array.mk all)[i]? = some o := by simpa using ho
  unfold takeOK at h1
  simp only [ho', Bool.and_eq_true] at h1
  obtain ⟨⟨⟨⟨hk, hrd⟩, hf⟩, hnf⟩, hw⟩ := h1
  have hready : i ∈ Region.ready .any ⟨all⟩ listed := by simpa using hrd
  have key : ∀ (v : Value) (e' : Env), YieldsIf P ⟨all⟩ (Grew w) o v a → Rel [] N e' (a.put o.dst v) → vcT P T N all fin Q n r (listed.setIfInBounds i true) e' w →
    wpAnyR P .any ⟨all⟩ (lift N Q) (grewS fin) (n + (i :: r).length) listed a w := by
   intro v e' hy hr' hv
   rw [kAe, ← kCs]
   refine wpAnyR_first (C := Grew w) (n := all.length) ho' (Region.noSelect_spec hsel) (fun c a w h => h.elim) (fun w => .inr (Grew.refl w)) (n + r.length) listed a w hcl ?_ hready hy (Grew.refl w) ?_
   ·intro j oj hj hne hun hd
    have hjlt : j < all.length := by have := (Array.getElem?_eq_some_iff.1 hj).1; simpa using this
    simp only [free', ho', kBd, List.mem_range] at hf
    have h1 := hf j (by simpa using hjlt)
    have hd' : dep ⟨all⟩ (Array.mk all).size j i = false := hd
    simp only [hj, Bool.or_eq_true, beq_iff_eq, hne, false_or, hun, hd', Bool.false_eq_true] at h1
    refine ⟨h1, fun w1 w2 hw1 hw2 => ?_⟩
    rcases hw2 with hw2 | hw2
    ·simp only [finWait, kBd] at hw
     have h3 := hw j hw2
     simp only [Bool.or_eq_true, beq_iff_eq, hne, false_or, hun, hd', Bool.false_eq_true] at h3
    ·exact hw1.trans hw2
   ·exact (DrawG.takes hsel n r h2 hv).out _ (hcl.set hready) hr'
  rcases grdG_iff hr g with ⟨e1, h1, h2, h3⟩ | ⟨e1, h1, h2, h3⟩
  ·cases hk' : kind T o.op <;> simp only [hk'] at h3 hk
   case pure =>
    obtain ⟨v, h4, h5⟩ := pureG_sound hT h1 h3
    obtain ⟨e', h6, h7⟩ := putE_iff h4 h1
    exact key v e' (.inl ⟨h2, fun w _ => h5 w⟩) h6 h7
   case read =>
    obtain ⟨v, h4, h5⟩ := readG_sound hT h1 h3
    obtain ⟨e', h6, h7⟩ := putE_iff h4 h1
    exact key v e' (.inl ⟨h2, fun w hw => h5 w hw⟩) h6 h7
  ·obtain ⟨e', h6, h7⟩ := putE_iff h3 h1
   exact key undef e' (.inr ⟨h2, rfl⟩) h6 h7
theorem DrawG.alt {n : Nat} {listed : Array Bool} {e : Env} {w : World} (j : Nat) (js : List Nat) (h : Region.ready .any ⟨all⟩ listed = j :: js)
  (g : allP (j :: js) fun i => atK all i fun o => grdG all o.guard e
   (fun e => match kind T o.op with
    |.pure => pureG P T e o.op fun v => putE N o.dst v e fun e' => DrawG P T N all fin Q n (listed.setIfInBounds i true) e' w
    |.read => readG P T e (fun w' => w = w') o fun v => putE N o.dst v e fun e' => DrawG P T N all fin Q n (listed.setIfInBounds i true) e' w
    |.eff => effG P T e o w fun v w' => (match fin.elem i with
     |true => putE N o.dst v e fun e' => DrawG P T N all fin Q n (listed.setIfInBounds i true) e' w'
     |false => Chk (Grew w w') (putE N o.dst v e fun e' => DrawG P T N all fin Q n (listed.setIfInBounds i true) e' w')))
   (fun e => putE N o.dst undef e fun e' => DrawG P T N all fin Q n (listed.setIfInBounds i true) e' w)) : DrawG P T N all fin Q (n + 1) listed e w := by
 refine ⟨fun a hcl hr => ⟨fun h0 => (by rw [h] at h0; cases h0), fun i hi => ?_⟩⟩
 have hcl' := hcl.set hi
 rw [h] at hi
 obtain ⟨o, ho, g⟩ := atK_iff (allP_mem g i hi)
 have ho' : (Array.mk all)[i]? = some o := by simpa using ho
 rcases grdG_iff hr g with ⟨e1, h1, h2, h3⟩ | ⟨e1, h1, h2, h3⟩
 ·unfold wpOp
  simp only [ho', h2, if_true]
  refine .inl ?_
  cases hk : kind T o.op <;> simp only [hk] at h3
  case pure =>
   obtain ⟨v, h4, h5⟩ := pureG_sound hT h1 h3
   obtain ⟨e', h6, h7⟩ := putE_iff h4 h1
   exact Oper.wp_value (h5 w) ⟨.inr (Grew.refl w), h7.out _ hcl' h6⟩
  case read =>
   obtain ⟨v, h4, h5⟩ := readG_sound hT h1 h3
   obtain ⟨e', h6, h7⟩ := putE_iff h4 h1
   exact Oper.wp_value (h5 w rfl) ⟨.inr (Grew.refl w), h7.out _ hcl' h6⟩
  case eff =>
   refine effG_sound hT h1 h3 fun v w' hk' => ?_
   cases hf : fin.elem i <;> rw [hf] at hk'
   ·obtain ⟨e', h6, h7⟩ := putE_iff hk'.q h1
    exact ⟨.inr hk'.p, h7.out _ hcl' h6⟩
   ·obtain ⟨e', h6, h7⟩ := putE_iff hk' h1
    exact ⟨.inl (by simpa using hf), h7.out _ hcl' h6⟩
 ·obtain ⟨e', h6, h7⟩ := putE_iff h3 h1
  unfold wpOp
  simp only [ho', h2, Bool.false_eq_true, if_false]
  exact ⟨.inr (Grew.refl w), h7.out _ hcl' h6⟩
omit hT in
theorem DrawG.done {n : Nat} {listed : Array Bool} {e : Env} {w : World} (h : Region.ready .any ⟨all⟩ listed = []) (hk : Q .normal e w) : DrawG P T N all fin Q n listed e w := by
 refine ⟨fun a _ hr => ?_⟩
 cases n with
 |zero => exact ⟨h, e, hr, hk⟩
 |succ n => exact ⟨fun _ => ⟨e, hr, hk⟩, fun i hi => by rw [h] at hi; cases hi⟩
end
theorem SemW.drawR {P : Program} {T : Tbl} (_hT : TOk P T) {N : Nat} {all : List Oper} {Q : Exit → Env → World → Prop} {id : Nat} {e : Env} {w : World} (hm : P.follows .mixedOrders = true) (fin : List Nat) (h : DrawG P T N all fin Q all.length (Array.replicate (Array.mk all).size false) e w.drew) : StopW P N (.region id ⟨all⟩ true) Q e w :=
 ⟨fun a hr => wp_region_any hm (wpAny_of_R _ _ _ _ (h.out a (by
  intro j oj _ hl
  simp only [Array.getD_eq_getD_getElem?, Array.getElem?_replicate] at hl
  split at hl <;> simp at hl) hr))⟩
end Go.Eng
