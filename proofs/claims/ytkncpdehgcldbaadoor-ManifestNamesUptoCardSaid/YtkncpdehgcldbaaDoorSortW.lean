/- slices' stable sort, in place. -/
import Derived.Test.YtkncpdehgcldbaaDoorSortE
import Derived.Test.YtkncpdehgcldbaaDoorTbl
import Derived.Test.YtkncpdehgcldbaaDoorConv
namespace Go.Proofs.YtkncpdehgcldbaaDoor
open Go Go.Eng Go.Proofs Go.Srt
/-- Elements of a type, and how they are compared. -/
structure Elt (β : Type) where
  cv : β → List Value
  lt : β → β → Bool
def szFile : Nat := 2
abbrev FileM := Int × Int
def fileC (f : FileM) : List Value := [.int .i64 f.1, .int .i64 f.2]
def fileV (f : FileM) : Value := .agg ⟨fileC f⟩
set_option maxHeartbeats 4000000 in
theorem swapRange_api_File {w : World} {g cap len : Nat} {a b n : Int} {l P A Q B S : List FileM} {tail : List Value} {F : Value} (hh : Holds [(g, .cells ⟨l.flatMap fileC ++ tail⟩ T_api_File (0, 0))] w) (hl : l = P ++ A ++ Q ++ B ++ S) (hAB : A.length = B.length) (hlL : l.length = len) (hlen : len ≤ 16777216) (ha : a = P.length) (hb : b = P.length + A.length + Q.length) (hn : n = A.length) :
    Cl Tryd.prog f_slices_swapRangeCmpFunc_api_File [.slice (some ⟨g, 0, none⟩) len cap, .int .i64 a, .int .i64 b, .int .i64 n, F] w fun _ w' => St w [g] [(g, .cells ⟨(P ++ B ++ Q ++ A ++ S).flatMap fileC ++ tail⟩ T_api_File (0, 0))] w' := by
  have hS : St w [g] [(g, .cells ⟨l.flatMap fileC ++ tail⟩ T_api_File (0, 0))] w := St.enter hh
  have hll : l.length = P.length + A.length + Q.length + B.length + S.length := by rw [hl]; simp only [List.length_append]
  refine en_slices_swapRangeCmpFunc_api_File rfl ?_
  repeat (first | refine SemW.run tblOk ?_ | refine IntG.nw (by omega) ?_ | refine IntG.nu8 (by omega) ?_ | refine IntG.nu32 (by omega) ?_ | refine IntG.nu64 (by omega) ?_ | refine IntG.wr' rfl ?_ | refine Chk.mk (by omega) ?_ | (refine BrG.id ?_; first | with_reducible refine BrG.t ?_ | with_reducible refine BrG.f ?_ | with_reducible refine BrG.notG ?_ | with_reducible refine BrG.nn ?_ | with_reducible refine BrG.ns ?_ | refine BrG.pos (by omega) ?_ | refine BrG.neg (by omega) ?_ | with_reducible refine BrG.pos rfl ?_ | refine BrG.pos (by assumption) ?_ | refine BrG.neg (by assumption) ?_ | refine BrG.pos (by decide) ?_ | refine BrG.neg (by decide) ?_) | refine Chk.mk (ptr_ok tblOk rfl rfl) ?_ | refine Chk.mk (by decide) ?_)
  refine SemW.loop (fun k : Nat => [(0, .slice (some ⟨g, 0, none⟩) len cap), (1, .int .i64 a), (2, .int .i64 b), (3, .int .i64 n), (10, .int .i64 k)])
    (fun k w' => k ≤ A.length ∧ St w [g] [(g, .cells ⟨(rg P A Q B S k).flatMap fileC ++ tail⟩ T_api_File (0, 0))] w') (fun k => A.length - k) 0
    ⟨rfl, rfl, rfl, rfl, rfl, trivial⟩ ⟨Nat.zero_le _, by rw [rg_zero, ← hl]; exact hS⟩ ?_
  clear hS
  rintro k w1 ⟨hk, hS⟩
  have hrl := rg_len (P := P) (Q := Q) (S := S) (k := k) hAB
  by_cases hkl : k < A.length
  · have hi : P.length + k < (rg P A Q B S k).length := by omega
    have hj : P.length + A.length + Q.length + k < (rg P A Q B S k).length := by omega
    have hsw := rg_swp hAB hkl hi hj rfl rfl
    repeat (first | refine SemW.run tblOk ?_ | refine IntG.nw (by omega) ?_ | refine IntG.nu8 (by omega) ?_ | refine IntG.nu32 (by omega) ?_ | refine IntG.nu64 (by omega) ?_ | refine IntG.wr' rfl ?_ | refine Chk.mk (by omega) ?_ | (refine BrG.id ?_; first | with_reducible refine BrG.t ?_ | with_reducible refine BrG.f ?_ | with_reducible refine BrG.notG ?_ | with_reducible refine BrG.nn ?_ | with_reducible refine BrG.ns ?_ | refine BrG.pos (by omega) ?_ | refine BrG.neg (by omega) ?_ | with_reducible refine BrG.pos rfl ?_ | refine BrG.pos (by assumption) ?_ | refine BrG.neg (by assumption) ?_ | refine BrG.pos (by decide) ?_ | refine BrG.neg (by decide) ?_) | refine Chk.mk (ptr_ok tblOk rfl rfl) ?_ | refine Chk.mk (by decide) ?_)
    refine SemW.draw tblOk mixed (fun w' => St w [g] [(g, .cells ⟨(rg P A Q B S k).flatMap fileC ++ tail⟩ T_api_File (0, 0))] w') [4, 5, 6, 7, 21, 22, 23] [4, 5, 6, 7, 0, 1, 2, 3, 8, 9, 10, 11, 12, 13, 14, 15, 16, 17, 18, 19, 20, 21, 22, 23] (by kernel_rfl) hS.drew ?_
    have hS := hS.drew
    repeat (first | refine SemW.run tblOk ?_ | refine IntG.nw (by omega) ?_ | refine IntG.nu8 (by omega) ?_ | refine IntG.nu32 (by omega) ?_ | refine IntG.nu64 (by omega) ?_ | refine IntG.wr' rfl ?_ | refine Chk.mk (by omega) ?_ | (refine BrG.id ?_; first | with_reducible refine BrG.t ?_ | with_reducible refine BrG.f ?_ | with_reducible refine BrG.notG ?_ | with_reducible refine BrG.nn ?_ | with_reducible refine BrG.ns ?_ | refine BrG.pos (by omega) ?_ | refine BrG.neg (by omega) ?_ | with_reducible refine BrG.pos rfl ?_ | refine BrG.pos (by assumption) ?_ | refine BrG.neg (by assumption) ?_ | refine BrG.pos (by decide) ?_ | refine BrG.neg (by decide) ?_) | refine Chk.mk (ptr_ok tblOk rfl rfl) ?_ | refine Chk.mk (by decide) ?_ | refine hS.ldC rfl ?_ | refine hS.ldnC rfl ?_)
    refine St.ldEC (sz := 2) (fun _ => rfl) hS hj ?_ ?_
    · omega
    repeat (first | refine SemW.run tblOk ?_ | refine IntG.nw (by omega) ?_ | refine IntG.nu8 (by omega) ?_ | refine IntG.nu32 (by omega) ?_ | refine IntG.nu64 (by omega) ?_ | refine IntG.wr' rfl ?_ | refine Chk.mk (by omega) ?_ | (refine BrG.id ?_; first | with_reducible refine BrG.t ?_ | with_reducible refine BrG.f ?_ | with_reducible refine BrG.notG ?_ | with_reducible refine BrG.nn ?_ | with_reducible refine BrG.ns ?_ | refine BrG.pos (by omega) ?_ | refine BrG.neg (by omega) ?_ | with_reducible refine BrG.pos rfl ?_ | refine BrG.pos (by assumption) ?_ | refine BrG.neg (by assumption) ?_ | refine BrG.pos (by decide) ?_ | refine BrG.neg (by decide) ?_) | refine Chk.mk (ptr_ok tblOk rfl rfl) ?_ | refine Chk.mk (by decide) ?_ | refine hS.ldC rfl ?_ | refine hS.ldnC rfl ?_)
    refine St.ldEC (sz := 2) (fun _ => rfl) hS hi ?_ ?_
    · omega
    repeat (first | refine SemW.run tblOk ?_ | refine IntG.nw (by omega) ?_ | refine IntG.nu8 (by omega) ?_ | refine IntG.nu32 (by omega) ?_ | refine IntG.nu64 (by omega) ?_ | refine IntG.wr' rfl ?_ | refine Chk.mk (by omega) ?_ | (refine BrG.id ?_; first | with_reducible refine BrG.t ?_ | with_reducible refine BrG.f ?_ | with_reducible refine BrG.notG ?_ | with_reducible refine BrG.nn ?_ | with_reducible refine BrG.ns ?_ | refine BrG.pos (by omega) ?_ | refine BrG.neg (by omega) ?_ | with_reducible refine BrG.pos rfl ?_ | refine BrG.pos (by assumption) ?_ | refine BrG.neg (by assumption) ?_ | refine BrG.pos (by decide) ?_ | refine BrG.neg (by decide) ?_) | refine Chk.mk (ptr_ok tblOk rfl rfl) ?_ | refine Chk.mk (by decide) ?_ | refine hS.ldC rfl ?_ | refine hS.ldnC rfl ?_)
    refine St.stE (sz := 2) (fun _ => rfl) (fun _ => rfl) hS hi ?_ ?_
    · omega
    intro w2 hS
    repeat (first | refine SemW.run tblOk ?_ | refine IntG.nw (by omega) ?_ | refine IntG.nu8 (by omega) ?_ | refine IntG.nu32 (by omega) ?_ | refine IntG.nu64 (by omega) ?_ | refine IntG.wr' rfl ?_ | refine Chk.mk (by omega) ?_ | (refine BrG.id ?_; first | with_reducible refine BrG.t ?_ | with_reducible refine BrG.f ?_ | with_reducible refine BrG.notG ?_ | with_reducible refine BrG.nn ?_ | with_reducible refine BrG.ns ?_ | refine BrG.pos (by omega) ?_ | refine BrG.neg (by omega) ?_ | with_reducible refine BrG.pos rfl ?_ | refine BrG.pos (by assumption) ?_ | refine BrG.neg (by assumption) ?_ | refine BrG.pos (by decide) ?_ | refine BrG.neg (by decide) ?_) | refine Chk.mk (ptr_ok tblOk rfl rfl) ?_ | refine Chk.mk (by decide) ?_ | refine hS.ldC rfl ?_ | refine hS.ldnC rfl ?_)
    refine St.stE (sz := 2) (fun _ => rfl) (fun _ => rfl) hS (k := P.length + A.length + Q.length + k) (by rw [List.length_set]; exact hj) ?_ ?_
    · omega
    intro w3 hS
    simp only [hsw] at hS
    repeat (first | refine SemW.run tblOk ?_ | refine IntG.nw (by omega) ?_ | refine IntG.nu8 (by omega) ?_ | refine IntG.nu32 (by omega) ?_ | refine IntG.nu64 (by omega) ?_ | refine IntG.wr' rfl ?_ | refine Chk.mk (by omega) ?_ | (refine BrG.id ?_; first | with_reducible refine BrG.t ?_ | with_reducible refine BrG.f ?_ | with_reducible refine BrG.notG ?_ | with_reducible refine BrG.nn ?_ | with_reducible refine BrG.ns ?_ | refine BrG.pos (by omega) ?_ | refine BrG.neg (by omega) ?_ | with_reducible refine BrG.pos rfl ?_ | refine BrG.pos (by assumption) ?_ | refine BrG.neg (by assumption) ?_ | refine BrG.pos (by decide) ?_ | refine BrG.neg (by decide) ?_) | refine Chk.mk (ptr_ok tblOk rfl rfl) ?_ | refine Chk.mk (by decide) ?_)
    exact ⟨k + 1, ⟨rfl, rfl, rfl, rfl, rfl, trivial⟩, ⟨by omega, hS⟩, by omega⟩
  · repeat (first | refine SemW.run tblOk ?_ | refine IntG.nw (by omega) ?_ | refine IntG.nu8 (by omega) ?_ | refine IntG.nu32 (by omega) ?_ | refine IntG.nu64 (by omega) ?_ | refine IntG.wr' rfl ?_ | refine Chk.mk (by omega) ?_ | (refine BrG.id ?_; first | with_reducible refine BrG.t ?_ | with_reducible refine BrG.f ?_ | with_reducible refine BrG.notG ?_ | with_reducible refine BrG.nn ?_ | with_reducible refine BrG.ns ?_ | refine BrG.pos (by omega) ?_ | refine BrG.neg (by omega) ?_ | with_reducible refine BrG.pos rfl ?_ | refine BrG.pos (by assumption) ?_ | refine BrG.neg (by assumption) ?_ | refine BrG.pos (by decide) ?_ | refine BrG.neg (by decide) ?_) | refine Chk.mk (ptr_ok tblOk rfl rfl) ?_ | refine Chk.mk (by decide) ?_)
    rw [rg_full hAB (by omega)] at hS
    exact hS
structure RT_api_File where
  P : List FileM
  U : List FileM
  V : List FileM
  S : List FileM
set_option maxHeartbeats 4000000 in
theorem rotate_api_File {w : World} {g cap len : Nat} {a m b : Int} {l P U V S : List FileM} {tail : List Value} {F : Value} (hh : Holds [(g, .cells ⟨l.flatMap fileC ++ tail⟩ T_api_File (0, 0))] w) (hl : l = P ++ U ++ V ++ S) (hlL : l.length = len) (hlen : len ≤ 16777216) (ha : a = P.length) (hm : m = P.length + U.length) (hb : b = P.length + U.length + V.length) (hU : 0 < U.length) (hV : 0 < V.length) :
    Cl Tryd.prog f_slices_rotateCmpFunc_api_File [.slice (some ⟨g, 0, none⟩) len cap, .int .i64 a, .int .i64 m, .int .i64 b, F] w fun _ w' => St w [g] [(g, .cells ⟨(P ++ V ++ U ++ S).flatMap fileC ++ tail⟩ T_api_File (0, 0))] w' := by
  have hS : St w [g] [(g, .cells ⟨l.flatMap fileC ++ tail⟩ T_api_File (0, 0))] w := St.enter hh
  have hll : l.length = P.length + U.length + V.length + S.length := by rw [hl]; simp only [List.length_append]
  refine en_slices_rotateCmpFunc_api_File rfl ?_
  repeat (first | refine SemW.run tblOk ?_ | refine IntG.nw (by omega) ?_ | refine IntG.nu8 (by omega) ?_ | refine IntG.nu32 (by omega) ?_ | refine IntG.nu64 (by omega) ?_ | refine IntG.wr' rfl ?_ | refine Chk.mk (by omega) ?_ | (refine BrG.id ?_; first | with_reducible refine BrG.t ?_ | with_reducible refine BrG.f ?_ | with_reducible refine BrG.notG ?_ | with_reducible refine BrG.nn ?_ | with_reducible refine BrG.ns ?_ | refine BrG.pos (by omega) ?_ | refine BrG.neg (by omega) ?_ | with_reducible refine BrG.pos rfl ?_ | refine BrG.pos (by assumption) ?_ | refine BrG.neg (by assumption) ?_ | refine BrG.pos (by decide) ?_ | refine BrG.neg (by decide) ?_) | refine Chk.mk (ptr_ok tblOk rfl rfl) ?_ | refine Chk.mk (by decide) ?_)
  refine SemW.loop (fun x : RT_api_File => [(0, .slice (some ⟨g, 0, none⟩) len cap), (2, .int .i64 m), (4, F), (10, .int .i64 x.U.length), (11, .int .i64 x.V.length)])
    (fun x w' => (P ++ V ++ U ++ S = x.P ++ x.V ++ x.U ++ x.S ∧ m = x.P.length + x.U.length ∧ 0 < x.U.length ∧ 0 < x.V.length) ∧ St w [g] [(g, .cells ⟨(x.P ++ x.U ++ x.V ++ x.S).flatMap fileC ++ tail⟩ T_api_File (0, 0))] w') (fun x => x.U.length + x.V.length) ⟨P, U, V, S⟩
    ⟨rfl, rfl, rfl, by show _ = Value.int .i64 _; congr 1; simp only; omega, by show _ = Value.int .i64 _; congr 1; simp only; omega, trivial⟩ ⟨⟨rfl, hm, hU, hV⟩, by rw [← hl]; exact hS⟩ ?_
  clear hS
  rintro ⟨P1, U1, V1, S1⟩ w1 ⟨⟨hT, hm1, hU1, hV1⟩, hS⟩
  simp only at hT hm1 hU1 hV1 hS ⊢
  have hl1 : (P1 ++ U1 ++ V1 ++ S1).length = len := by
    have := congrArg List.length hT
    simp only [List.length_append] at this ⊢; omega
  have hl2 : (P1 ++ U1 ++ V1 ++ S1).length = P1.length + U1.length + V1.length + S1.length := by simp only [List.length_append]
  by_cases hne : U1.length = V1.length
  · repeat (first | refine SemW.run tblOk ?_ | refine IntG.nw (by omega) ?_ | refine IntG.nu8 (by omega) ?_ | refine IntG.nu32 (by omega) ?_ | refine IntG.nu64 (by omega) ?_ | refine IntG.wr' rfl ?_ | refine Chk.mk (by omega) ?_ | (refine BrG.id ?_; first | with_reducible refine BrG.t ?_ | with_reducible refine BrG.f ?_ | with_reducible refine BrG.notG ?_ | with_reducible refine BrG.nn ?_ | with_reducible refine BrG.ns ?_ | refine BrG.pos (by omega) ?_ | refine BrG.neg (by omega) ?_ | with_reducible refine BrG.pos rfl ?_ | refine BrG.pos (by assumption) ?_ | refine BrG.neg (by assumption) ?_ | refine BrG.pos (by decide) ?_ | refine BrG.neg (by decide) ?_) | refine Chk.mk (ptr_ok tblOk rfl rfl) ?_ | refine Chk.mk (by decide) ?_)
    refine (swapRange_api_File hS.holds (Q := []) (A := U1) (B := V1) (P := P1) (S := S1) (by rw [List.append_nil]) hne hl1 hlen (by omega) (by simp only [List.length_nil]; omega) rfl).mono ?_
    intro _ w2 hS'
    have hS := hS.call1 hS'
    rw [List.append_nil, ← hT] at hS
    repeat (first | refine SemW.run tblOk ?_ | refine IntG.nw (by omega) ?_ | refine IntG.nu8 (by omega) ?_ | refine IntG.nu32 (by omega) ?_ | refine IntG.nu64 (by omega) ?_ | refine IntG.wr' rfl ?_ | refine Chk.mk (by omega) ?_ | (refine BrG.id ?_; first | with_reducible refine BrG.t ?_ | with_reducible refine BrG.f ?_ | with_reducible refine BrG.notG ?_ | with_reducible refine BrG.nn ?_ | with_reducible refine BrG.ns ?_ | refine BrG.pos (by omega) ?_ | refine BrG.neg (by omega) ?_ | with_reducible refine BrG.pos rfl ?_ | refine BrG.pos (by assumption) ?_ | refine BrG.neg (by assumption) ?_ | refine BrG.pos (by decide) ?_ | refine BrG.neg (by decide) ?_) | refine Chk.mk (ptr_ok tblOk rfl rfl) ?_ | refine Chk.mk (by decide) ?_)
    exact hS
  · by_cases hgt : V1.length < U1.length
    · obtain ⟨X, Y, hXY, hX⟩ : ∃ X Y, U1 = X ++ Y ∧ X.length = V1.length := ⟨U1.take V1.length, U1.drop V1.length, (List.take_append_drop _ _).symm, by rw [List.length_take]; omega⟩
      have hY : U1.length = V1.length + Y.length := by rw [hXY, List.length_append, hX]
      repeat (first | refine SemW.run tblOk ?_ | refine IntG.nw (by omega) ?_ | refine IntG.nu8 (by omega) ?_ | refine IntG.nu32 (by omega) ?_ | refine IntG.nu64 (by omega) ?_ | refine IntG.wr' rfl ?_ | refine Chk.mk (by omega) ?_ | (refine BrG.id ?_; first | with_reducible refine BrG.t ?_ | with_reducible refine BrG.f ?_ | with_reducible refine BrG.notG ?_ | with_reducible refine BrG.nn ?_ | with_reducible refine BrG.ns ?_ | refine BrG.pos (by omega) ?_ | refine BrG.neg (by omega) ?_ | with_reducible refine BrG.pos rfl ?_ | refine BrG.pos (by assumption) ?_ | refine BrG.neg (by assumption) ?_ | refine BrG.pos (by decide) ?_ | refine BrG.neg (by decide) ?_) | refine Chk.mk (ptr_ok tblOk rfl rfl) ?_ | refine Chk.mk (by decide) ?_)
      refine (swapRange_api_File hS.holds (Q := Y) (A := X) (B := V1) (P := P1) (S := S1) (by rw [hXY]; simp only [List.append_assoc]) hX hl1 hlen (by omega) (by omega) (by omega)).mono ?_
      intro _ w2 hS'
      have hS := hS.call1 hS'
      repeat (first | refine SemW.run tblOk ?_ | refine IntG.nw (by omega) ?_ | refine IntG.nu8 (by omega) ?_ | refine IntG.nu32 (by omega) ?_ | refine IntG.nu64 (by omega) ?_ | refine IntG.wr' rfl ?_ | refine Chk.mk (by omega) ?_ | (refine BrG.id ?_; first | with_reducible refine BrG.t ?_ | with_reducible refine BrG.f ?_ | with_reducible refine BrG.notG ?_ | with_reducible refine BrG.nn ?_ | with_reducible refine BrG.ns ?_ | refine BrG.pos (by omega) ?_ | refine BrG.neg (by omega) ?_ | with_reducible refine BrG.pos rfl ?_ | refine BrG.pos (by assumption) ?_ | refine BrG.neg (by assumption) ?_ | refine BrG.pos (by decide) ?_ | refine BrG.neg (by decide) ?_) | refine Chk.mk (ptr_ok tblOk rfl rfl) ?_ | refine Chk.mk (by decide) ?_)
      refine ⟨⟨P1 ++ V1, Y, X, S1⟩, ⟨rfl, rfl, rfl, by show _ = Value.int .i64 _; congr 1; simp only; omega, by show _ = Value.int .i64 _; congr 1; simp only; omega, trivial⟩, ⟨⟨by rw [hT, hXY]; simp only [List.append_assoc], by simp only [List.length_append]; omega, by simp only; omega, by simp only; omega⟩, hS⟩, by simp only; omega⟩
    · obtain ⟨X, Y, hXY, hY⟩ : ∃ X Y, V1 = X ++ Y ∧ Y.length = U1.length := ⟨V1.take (V1.length - U1.length), V1.drop (V1.length - U1.length), (List.take_append_drop _ _).symm, by rw [List.length_drop]; omega⟩
      have hX : V1.length = X.length + U1.length := by rw [hXY, List.length_append, hY]
      repeat (first | refine SemW.run tblOk ?_ | refine IntG.nw (by omega) ?_ | refine IntG.nu8 (by omega) ?_ | refine IntG.nu32 (by omega) ?_ | refine IntG.nu64 (by omega) ?_ | refine IntG.wr' rfl ?_ | refine Chk.mk (by omega) ?_ | (refine BrG.id ?_; first | with_reducible refine BrG.t ?_ | with_reducible refine BrG.f ?_ | with_reducible refine BrG.notG ?_ | with_reducible refine BrG.nn ?_ | with_reducible refine BrG.ns ?_ | refine BrG.pos (by omega) ?_ | refine BrG.neg (by omega) ?_ | with_reducible refine BrG.pos rfl ?_ | refine BrG.pos (by assumption) ?_ | refine BrG.neg (by assumption) ?_ | refine BrG.pos (by decide) ?_ | refine BrG.neg (by decide) ?_) | refine Chk.mk (ptr_ok tblOk rfl rfl) ?_ | refine Chk.mk (by decide) ?_)
      refine (swapRange_api_File hS.holds (Q := X) (A := U1) (B := Y) (P := P1) (S := S1) (by rw [hXY]; simp only [List.append_assoc]) hY.symm hl1 hlen (by omega) (by omega) rfl).mono ?_
      intro _ w2 hS'
      have hS := hS.call1 hS'
      repeat (first | refine SemW.run tblOk ?_ | refine IntG.nw (by omega) ?_ | refine IntG.nu8 (by omega) ?_ | refine IntG.nu32 (by omega) ?_ | refine IntG.nu64 (by omega) ?_ | refine IntG.wr' rfl ?_ | refine Chk.mk (by omega) ?_ | (refine BrG.id ?_; first | with_reducible refine BrG.t ?_ | with_reducible refine BrG.f ?_ | with_reducible refine BrG.notG ?_ | with_reducible refine BrG.nn ?_ | with_reducible refine BrG.ns ?_ | refine BrG.pos (by omega) ?_ | refine BrG.neg (by omega) ?_ | with_reducible refine BrG.pos rfl ?_ | refine BrG.pos (by assumption) ?_ | refine BrG.neg (by assumption) ?_ | refine BrG.pos (by decide) ?_ | refine BrG.neg (by decide) ?_) | refine Chk.mk (ptr_ok tblOk rfl rfl) ?_ | refine Chk.mk (by decide) ?_)
      refine ⟨⟨P1, Y, X, U1 ++ S1⟩, ⟨rfl, rfl, rfl, by show _ = Value.int .i64 _; congr 1; simp only; omega, by show _ = Value.int .i64 _; congr 1; simp only; omega, trivial⟩, ⟨⟨by rw [hT, hXY]; simp only [List.append_assoc], by simp only; omega, by simp only; omega, by simp only; omega⟩, by simp only [List.append_assoc] at hS ⊢; exact hS⟩, by simp only; omega⟩
end Go.Proofs.YtkncpdehgcldbaaDoor
