/- Texts of this claim, one behind the other. -/
import Derived.Test.YthpmmfapolcaiaaGreatDoorZ2
import Derived.Test.YthpmmfapolcaiaaGreatDoorZ1
import Derived.Test.YthpmmfapolcaiaaGreatDoorRows
import Derived.Test.YthpmmfapolcaiaaGreatDoorZ0
import Derived.WalkKit
import Derived.ProofKit
import Derived.OpenShut
import Derived.Carry
import Derived.SliceStrings
import Derived.JoinedCond
import Derived.Deep.Slices
import Derived.Laws.StructEq
import Derived.Laws.CopyRow
/- The document's labels; the document's right passes. -/
namespace Go.Proofs.YthpmmfapolcaiaaGreatDoor
open Go Go.Eng Go.Proofs

set_option maxHeartbeats 1000000 in
theorem R13Label_spec {w : World} (num : Int) (c : Nat) (hc : c < 256) : Cl Tryz.prog f_tarmacref13_Label [.agg ⟨[.int .i64 num, .int .u8 c]⟩] w fun v w' => v = Str (labelB num c) ∧ St w [] [] w' := by
  have hS := St.start w
  refine en_tarmacref13_Label rfl ?_
  unfold labelB
  repeat (first | refine SemW.run tblOk ?_ | refine jA (by omega) ?_ | refine jB (by omega) ?_ | refine jC (by omega) ?_ | refine jD (by omega) ?_ | refine jE rfl ?_ | refine jF (by omega) ?_ | (refine jG ?_; first | with_reducible (first | refine jH ?_ | refine jI ?_ | refine jJ ?_ | refine jK ?_ | refine jL ?_) | refine jM (by omega) ?_ | refine jN (by omega) ?_ | with_reducible refine jM rfl ?_ | refine jM (by assumption) ?_ | refine jN (by assumption) ?_ | refine jM (by decide) ?_ | refine jN (by decide) ?_) | refine jF (ptr_ok tblOk rfl rfl) ?_ | refine jO (fun _ => by kernel_rfl) ?_ | refine jF (by decide) ?_)
  refine hS.al ?_
  intro b w1 _ hS
  have hS : St w [] ((b, .cells ⟨[.int .i64 num, .int .u8 c]⟩ T_api_Seat (0, 0)) :: []) _ := hS
  by_cases h1 : num < 1
  · repeat (first | refine SemW.run tblOk ?_ | refine jA (by omega) ?_ | refine jB (by omega) ?_ | refine jC (by omega) ?_ | refine jD (by omega) ?_ | refine jE rfl ?_ | refine jF (by omega) ?_ | (refine jG ?_; first | with_reducible (first | refine jH ?_ | refine jI ?_ | refine jJ ?_ | refine jK ?_ | refine jL ?_) | refine jM (by omega) ?_ | refine jN (by omega) ?_ | with_reducible refine jM rfl ?_ | refine jM (by assumption) ?_ | refine jN (by assumption) ?_ | refine jM (by decide) ?_ | refine jN (by decide) ?_) | refine jF (ptr_ok tblOk rfl rfl) ?_ | refine jO (fun _ => by kernel_rfl) ?_ | refine jF (by decide) ?_ | refine hS.ld rfl ?_ | refine hS.ldn rfl ?_ | (refine hS.st rfl rfl ?_; intro _ hS))
    have : seatOk num c = false := by
      cases h : seatOk num c with
      | false => rfl
      | true => have := seatOk_iff.1 h; omega
    rw [this]
    exact ⟨rfl, hS.nil⟩
  by_cases h2 : 99 < num
  · repeat (first | refine SemW.run tblOk ?_ | refine jA (by omega) ?_ | refine jB (by omega) ?_ | refine jC (by omega) ?_ | refine jD (by omega) ?_ | refine jE rfl ?_ | refine jF (by omega) ?_ | (refine jG ?_; first | with_reducible (first | refine jH ?_ | refine jI ?_ | refine jJ ?_ | refine jK ?_ | refine jL ?_) | refine jM (by omega) ?_ | refine jN (by omega) ?_ | with_reducible refine jM rfl ?_ | refine jM (by assumption) ?_ | refine jN (by assumption) ?_ | refine jM (by decide) ?_ | refine jN (by decide) ?_) | refine jF (ptr_ok tblOk rfl rfl) ?_ | refine jO (fun _ => by kernel_rfl) ?_ | refine jF (by decide) ?_ | refine hS.ld rfl ?_ | refine hS.ldn rfl ?_ | (refine hS.st rfl rfl ?_; intro _ hS))
    have : seatOk num c = false := by
      cases h : seatOk num c with
      | false => rfl
      | true => have := seatOk_iff.1 h; omega
    rw [this]
    exact ⟨rfl, hS.nil⟩
  by_cases h3 : c < 65
  · repeat (first | refine SemW.run tblOk ?_ | refine jA (by omega) ?_ | refine jB (by omega) ?_ | refine jC (by omega) ?_ | refine jD (by omega) ?_ | refine jE rfl ?_ | refine jF (by omega) ?_ | (refine jG ?_; first | with_reducible (first | refine jH ?_ | refine jI ?_ | refine jJ ?_ | refine jK ?_ | refine jL ?_) | refine jM (by omega) ?_ | refine jN (by omega) ?_ | with_reducible refine jM rfl ?_ | refine jM (by assumption) ?_ | refine jN (by assumption) ?_ | refine jM (by decide) ?_ | refine jN (by decide) ?_) | refine jF (ptr_ok tblOk rfl rfl) ?_ | refine jO (fun _ => by kernel_rfl) ?_ | refine jF (by decide) ?_ | refine hS.ld rfl ?_ | refine hS.ldn rfl ?_ | (refine hS.st rfl rfl ?_; intro _ hS))
    have : seatOk num c = false := by
      cases h : seatOk num c with
      | false => rfl
      | true => have := seatOk_iff.1 h; omega
    rw [this]
    exact ⟨rfl, hS.nil⟩
  by_cases h4 : 90 < c
  · repeat (first | refine SemW.run tblOk ?_ | refine jA (by omega) ?_ | refine jB (by omega) ?_ | refine jC (by omega) ?_ | refine jD (by omega) ?_ | refine jE rfl ?_ | refine jF (by omega) ?_ | (refine jG ?_; first | with_reducible (first | refine jH ?_ | refine jI ?_ | refine jJ ?_ | refine jK ?_ | refine jL ?_) | refine jM (by omega) ?_ | refine jN (by omega) ?_ | with_reducible refine jM rfl ?_ | refine jM (by assumption) ?_ | refine jN (by assumption) ?_ | refine jM (by decide) ?_ | refine jN (by decide) ?_) | refine jF (ptr_ok tblOk rfl rfl) ?_ | refine jO (fun _ => by kernel_rfl) ?_ | refine jF (by decide) ?_ | refine hS.ld rfl ?_ | refine hS.ldn rfl ?_ | (refine hS.st rfl rfl ?_; intro _ hS))
    have : seatOk num c = false := by
      cases h : seatOk num c with
      | false => rfl
      | true => have := seatOk_iff.1 h; omega
    rw [this]
    exact ⟨rfl, hS.nil⟩
  have hs : seatOk num c = true := seatOk_iff.2 (by omega)
  rw [hs, if_pos rfl]
  obtain ⟨n, rfl⟩ := Int.eq_ofNat_of_zero_le (show 0 ≤ num by omega)
  have hn100 : n < 100 := by omega
  have hdl : (digB n).length ≤ 2 := by unfold digB; split <;> simp
  repeat (first | refine SemW.run tblOk ?_ | refine jA (by omega) ?_ | refine jB (by omega) ?_ | refine jC (by omega) ?_ | refine jD (by omega) ?_ | refine jE rfl ?_ | refine jF (by omega) ?_ | (refine jG ?_; first | with_reducible (first | refine jH ?_ | refine jI ?_ | refine jJ ?_ | refine jK ?_ | refine jL ?_) | refine jM (by omega) ?_ | refine jN (by omega) ?_ | with_reducible refine jM rfl ?_ | refine jM (by assumption) ?_ | refine jN (by assumption) ?_ | refine jM (by decide) ?_ | refine jN (by decide) ?_) | refine jF (ptr_ok tblOk rfl rfl) ?_ | refine jO (fun _ => by kernel_rfl) ?_ | refine jF (by decide) ?_ | refine hS.ld rfl ?_ | refine hS.ldn rfl ?_ | (refine hS.st rfl rfl ?_; intro _ hS))
  refine SemW.drawR tblOk mixed [] ?_
  have hS := hS.drew
  refine DrawG.takes tblOk (by kernel_rfl) 5 [0, 1, 3, 4] (by kernel_rfl) ?_
  repeat (first | refine SemW.run tblOk ?_ | refine jA (by omega) ?_ | refine jB (by omega) ?_ | refine jC (by omega) ?_ | refine jD (by omega) ?_ | refine jE rfl ?_ | refine jF (by omega) ?_ | (refine jG ?_; first | with_reducible (first | refine jH ?_ | refine jI ?_ | refine jJ ?_ | refine jK ?_ | refine jL ?_) | refine jM (by omega) ?_ | refine jN (by omega) ?_ | with_reducible refine jM rfl ?_ | refine jM (by assumption) ?_ | refine jN (by assumption) ?_ | refine jM (by decide) ?_ | refine jN (by decide) ?_) | refine jF (ptr_ok tblOk rfl rfl) ?_ | refine jO (fun _ => by kernel_rfl) ?_ | refine jF (by decide) ?_ | refine hS.ldG rfl ?_ | refine hS.ldnG rfl ?_)
  have hcb : ([.int .u8 c] : List Value) = [UInt8.ofNat c].map byteV := by
    have : (UInt8.ofNat c).toNat = c := by simp; omega
    simp [byteV, this]
  refine DrawG.alt tblOk 2 [5] (by kernel_rfl) ⟨?_, ?_, trivial⟩
  · refine Cl.mono (Itoa_spec n hn100) ?_
    rintro _ w2 ⟨rfl, hS'⟩
    refine Chk.mk hS' ?_
    have hS := hS.call0 hS'
    refine DrawG.alt tblOk 5 [] (by kernel_rfl) ⟨?_, trivial⟩
    refine hS.alG ?_
    intro r w3 hG hS
    refine Chk.mk hG ?_
    rw [hcb] at hS
    refine DrawG.takes tblOk (by kernel_rfl) 0 [6, 7, 8] (by kernel_rfl) ?_
    repeat (first | refine SemW.run tblOk ?_ | refine jA (by omega) ?_ | refine jB (by omega) ?_ | refine jC (by omega) ?_ | refine jD (by omega) ?_ | refine jE rfl ?_ | refine jF (by omega) ?_ | (refine jG ?_; first | with_reducible (first | refine jH ?_ | refine jI ?_ | refine jJ ?_ | refine jK ?_ | refine jL ?_) | refine jM (by omega) ?_ | refine jN (by omega) ?_ | with_reducible refine jM rfl ?_ | refine jM (by assumption) ?_ | refine jN (by assumption) ?_ | refine jM (by decide) ?_ | refine jN (by decide) ?_) | refine jF (ptr_ok tblOk rfl rfl) ?_ | refine jO (fun _ => by kernel_rfl) ?_ | refine jF (by decide) ?_ | refine hS.ldG rfl ?_ | refine hS.ldnG rfl ?_)
    refine toStr (T := []) tblOk rfl rfl rfl rfl rfl rfl (bs := [UInt8.ofNat c]) rfl (fun w' hw' => (hS.call0 hw').arr (b := r) (by simp)) ?_
    repeat (first | refine SemW.run tblOk ?_ | refine jA (by omega) ?_ | refine jB (by omega) ?_ | refine jC (by omega) ?_ | refine jD (by omega) ?_ | refine jE rfl ?_ | refine jF (by omega) ?_ | (refine jG ?_; first | with_reducible (first | refine jH ?_ | refine jI ?_ | refine jJ ?_ | refine jK ?_ | refine jL ?_) | refine jM (by omega) ?_ | refine jN (by omega) ?_ | with_reducible refine jM rfl ?_ | refine jM (by assumption) ?_ | refine jN (by assumption) ?_ | refine jM (by decide) ?_ | refine jN (by decide) ?_) | refine jF (ptr_ok tblOk rfl rfl) ?_ | refine jO (fun _ => by kernel_rfl) ?_ | refine jF (by decide) ?_ | refine hS.ldG rfl ?_ | refine hS.ldnG rfl ?_)
    refine Chk.mk (by simp; omega) ?_
    repeat (first | refine SemW.run tblOk ?_ | refine jA (by omega) ?_ | refine jB (by omega) ?_ | refine jC (by omega) ?_ | refine jD (by omega) ?_ | refine jE rfl ?_ | refine jF (by omega) ?_ | (refine jG ?_; first | with_reducible (first | refine jH ?_ | refine jI ?_ | refine jJ ?_ | refine jK ?_ | refine jL ?_) | refine jM (by omega) ?_ | refine jN (by omega) ?_ | with_reducible refine jM rfl ?_ | refine jM (by assumption) ?_ | refine jN (by assumption) ?_ | refine jM (by decide) ?_ | refine jN (by decide) ?_) | refine jF (ptr_ok tblOk rfl rfl) ?_ | refine jO (fun _ => by kernel_rfl) ?_ | refine jF (by decide) ?_ | refine hS.ldG rfl ?_ | refine hS.ldnG rfl ?_)
    refine DrawG.done (by kernel_rfl) ?_
    repeat (first | refine SemW.run tblOk ?_ | refine jA (by omega) ?_ | refine jB (by omega) ?_ | refine jC (by omega) ?_ | refine jD (by omega) ?_ | refine jE rfl ?_ | refine jF (by omega) ?_ | (refine jG ?_; first | with_reducible (first | refine jH ?_ | refine jI ?_ | refine jJ ?_ | refine jK ?_ | refine jL ?_) | refine jM (by omega) ?_ | refine jN (by omega) ?_ | with_reducible refine jM rfl ?_ | refine jM (by assumption) ?_ | refine jN (by assumption) ?_ | refine jM (by decide) ?_ | refine jN (by decide) ?_) | refine jF (ptr_ok tblOk rfl rfl) ?_ | refine jO (fun _ => by kernel_rfl) ?_ | refine jF (by decide) ?_)
    exact ⟨rfl, hS.nil⟩
  · refine hS.alG ?_
    intro r w3 hG hS
    refine Chk.mk hG ?_
    rw [hcb] at hS
    refine DrawG.takes tblOk (by kernel_rfl) 3 [6] (by kernel_rfl) ?_
    repeat (first | refine SemW.run tblOk ?_ | refine jA (by omega) ?_ | refine jB (by omega) ?_ | refine jC (by omega) ?_ | refine jD (by omega) ?_ | refine jE rfl ?_ | refine jF (by omega) ?_ | (refine jG ?_; first | with_reducible (first | refine jH ?_ | refine jI ?_ | refine jJ ?_ | refine jK ?_ | refine jL ?_) | refine jM (by omega) ?_ | refine jN (by omega) ?_ | with_reducible refine jM rfl ?_ | refine jM (by assumption) ?_ | refine jN (by assumption) ?_ | refine jM (by decide) ?_ | refine jN (by decide) ?_) | refine jF (ptr_ok tblOk rfl rfl) ?_ | refine jO (fun _ => by kernel_rfl) ?_ | refine jF (by decide) ?_ | refine hS.ldG rfl ?_ | refine hS.ldnG rfl ?_)
    refine toStr (T := []) tblOk rfl rfl rfl rfl rfl rfl (bs := [UInt8.ofNat c]) rfl (fun w' hw' => (hS.call0 hw').arr (b := r) (by simp)) ?_
    repeat (first | refine SemW.run tblOk ?_ | refine jA (by omega) ?_ | refine jB (by omega) ?_ | refine jC (by omega) ?_ | refine jD (by omega) ?_ | refine jE rfl ?_ | refine jF (by omega) ?_ | (refine jG ?_; first | with_reducible (first | refine jH ?_ | refine jI ?_ | refine jJ ?_ | refine jK ?_ | refine jL ?_) | refine jM (by omega) ?_ | refine jN (by omega) ?_ | with_reducible refine jM rfl ?_ | refine jM (by assumption) ?_ | refine jN (by assumption) ?_ | refine jM (by decide) ?_ | refine jN (by decide) ?_) | refine jF (ptr_ok tblOk rfl rfl) ?_ | refine jO (fun _ => by kernel_rfl) ?_ | refine jF (by decide) ?_ | refine hS.ldG rfl ?_ | refine hS.ldnG rfl ?_)
    refine DrawG.alt tblOk 2 [] (by kernel_rfl) ⟨?_, trivial⟩
    refine Cl.mono (Itoa_spec n hn100) ?_
    rintro _ w2 ⟨rfl, hS'⟩
    refine Chk.mk hS' ?_
    have hS := hS.call0 hS'
    refine DrawG.takes tblOk (by kernel_rfl) 0 [7, 8] (by kernel_rfl) ?_
    repeat (first | refine SemW.run tblOk ?_ | refine jA (by omega) ?_ | refine jB (by omega) ?_ | refine jC (by omega) ?_ | refine jD (by omega) ?_ | refine jE rfl ?_ | refine jF (by omega) ?_ | (refine jG ?_; first | with_reducible (first | refine jH ?_ | refine jI ?_ | refine jJ ?_ | refine jK ?_ | refine jL ?_) | refine jM (by omega) ?_ | refine jN (by omega) ?_ | with_reducible refine jM rfl ?_ | refine jM (by assumption) ?_ | refine jN (by assumption) ?_ | refine jM (by decide) ?_ | refine jN (by decide) ?_) | refine jF (ptr_ok tblOk rfl rfl) ?_ | refine jO (fun _ => by kernel_rfl) ?_ | refine jF (by decide) ?_ | refine hS.ldG rfl ?_ | refine hS.ldnG rfl ?_)
    refine Chk.mk (by simp; omega) ?_
    repeat (first | refine SemW.run tblOk ?_ | refine jA (by omega) ?_ | refine jB (by omega) ?_ | refine jC (by omega) ?_ | refine jD (by omega) ?_ | refine jE rfl ?_ | refine jF (by omega) ?_ | (refine jG ?_; first | with_reducible (first | refine jH ?_ | refine jI ?_ | refine jJ ?_ | refine jK ?_ | refine jL ?_) | refine jM (by omega) ?_ | refine jN (by omega) ?_ | with_reducible refine jM rfl ?_ | refine jM (by assumption) ?_ | refine jN (by assumption) ?_ | refine jM (by decide) ?_ | refine jN (by decide) ?_) | refine jF (ptr_ok tblOk rfl rfl) ?_ | refine jO (fun _ => by kernel_rfl) ?_ | refine jF (by decide) ?_ | refine hS.ldG rfl ?_ | refine hS.ldnG rfl ?_)
    refine DrawG.done (by kernel_rfl) ?_
    repeat (first | refine SemW.run tblOk ?_ | refine jA (by omega) ?_ | refine jB (by omega) ?_ | refine jC (by omega) ?_ | refine jD (by omega) ?_ | refine jE rfl ?_ | refine jF (by omega) ?_ | (refine jG ?_; first | with_reducible (first | refine jH ?_ | refine jI ?_ | refine jJ ?_ | refine jK ?_ | refine jL ?_) | refine jM (by omega) ?_ | refine jN (by omega) ?_ | with_reducible refine jM rfl ?_ | refine jM (by assumption) ?_ | refine jN (by assumption) ?_ | refine jM (by decide) ?_ | refine jN (by decide) ?_) | refine jF (ptr_ok tblOk rfl rfl) ?_ | refine jO (fun _ => by kernel_rfl) ?_ | refine jF (by decide) ?_)
    exact ⟨rfl, hS.nil⟩
end Go.Proofs.YthpmmfapolcaiaaGreatDoor

/- The document's Parse of a label. -/
namespace Go.Proofs.YthpmmfapolcaiaaGreatDoor
open Go Go.Eng Go.Proofs

set_option maxHeartbeats 1000000 in
theorem R13Parse_spec {w : World} {s : Bytes} (hs : s.length ≤ 70368744177664) (hE : ErrVars w) :
    Cl Tryz.prog f_tarmacref13_Parse [Str s] w fun v w' => v = .tuple ⟨[seatAt (parseO s).1 (parseO s).2.1, .bool (parseO s).2.2]⟩ ∧ St w [] [] w' := by
  have hS := St.start w
  refine en_tarmacref13_Parse rfl ?_
  unfold seatAt parseO
  by_cases h2 : s.length < 2
  · have hp : parseB s = none := by
      match s, h2 with
      | [], _ => rfl
      | [c], _ => rfl
    rw [hp]
    repeat (first | refine SemW.run tblOk ?_ | refine jA (by omega) ?_ | refine jB (by omega) ?_ | refine jC (by omega) ?_ | refine jD (by omega) ?_ | refine jE rfl ?_ | refine jF (by omega) ?_ | (refine jG ?_; first | with_reducible (first | refine jH ?_ | refine jI ?_ | refine jJ ?_ | refine jK ?_ | refine jL ?_) | refine jM (by omega) ?_ | refine jN (by omega) ?_ | with_reducible refine jM rfl ?_ | refine jM (by assumption) ?_ | refine jN (by assumption) ?_ | refine jM (by decide) ?_ | refine jN (by decide) ?_) | refine jF (ptr_ok tblOk rfl rfl) ?_ | refine jO (fun _ => by kernel_rfl) ?_ | refine jF (by decide) ?_)
    refine hS.al ?_
    intro b w1 _ hS
    repeat (first | refine SemW.run tblOk ?_ | refine jA (by omega) ?_ | refine jB (by omega) ?_ | refine jC (by omega) ?_ | refine jD (by omega) ?_ | refine jE rfl ?_ | refine jF (by omega) ?_ | (refine jG ?_; first | with_reducible (first | refine jH ?_ | refine jI ?_ | refine jJ ?_ | refine jK ?_ | refine jL ?_) | refine jM (by omega) ?_ | refine jN (by omega) ?_ | with_reducible refine jM rfl ?_ | refine jM (by assumption) ?_ | refine jN (by assumption) ?_ | refine jM (by decide) ?_ | refine jN (by decide) ?_) | refine jF (ptr_ok tblOk rfl rfl) ?_ | refine jO (fun _ => by kernel_rfl) ?_ | refine jF (by decide) ?_ | refine hS.ld rfl ?_ | refine hS.ldn rfl ?_ | (refine hS.st rfl rfl ?_; intro _ hS))
    exact ⟨rfl, hS.nil⟩
  · rcases List.eq_nil_or_concat s with rfl | ⟨s', c, rfl⟩
    · exact absurd (by show 0 < 2; omega) h2
    rw [List.concat_eq_append] at *
    have hsl : (s' ++ [c]).length = s'.length + 1 := by simp
    have htk : (s' ++ [c]).take s'.length = s' := by simp
    have hgl : (s' ++ [c]).getLast? = some c := by simp
    have hdl : (s' ++ [c]).dropLast = s' := by simp
    have hcc : (s' ++ [c]).getD s'.length 0 = c := by simp
    obtain ⟨s, hse⟩ : ∃ s, s = s' ++ [c] := ⟨_, rfl⟩
    rw [← hse] at hs hsl htk hgl hdl hcc h2 ⊢
    have hcl := c.toNat_lt
    have e1 : ((s.length : Int) - 1).toNat = s'.length := by omega
    repeat (first | refine SemW.run tblOk ?_ | refine jA (by omega) ?_ | refine jB (by omega) ?_ | refine jC (by omega) ?_ | refine jD (by omega) ?_ | refine jE rfl ?_ | refine jF (by omega) ?_ | (refine jG ?_; first | with_reducible (first | refine jH ?_ | refine jI ?_ | refine jJ ?_ | refine jK ?_ | refine jL ?_) | refine jM (by omega) ?_ | refine jN (by omega) ?_ | with_reducible refine jM rfl ?_ | refine jM (by assumption) ?_ | refine jN (by assumption) ?_ | refine jM (by decide) ?_ | refine jN (by decide) ?_) | refine jF (ptr_ok tblOk rfl rfl) ?_ | refine jO (fun _ => by kernel_rfl) ?_ | refine jF (by decide) ?_)
    refine hS.al ?_
    intro b w1 _ hS
    have hE1 := hE.keep hS (by simp) (by simp)
    repeat (first | refine SemW.run tblOk ?_ | refine jA (by omega) ?_ | refine jB (by omega) ?_ | refine jC (by omega) ?_ | refine jD (by omega) ?_ | refine jE rfl ?_ | refine jF (by omega) ?_ | (refine jG ?_; first | with_reducible (first | refine jH ?_ | refine jI ?_ | refine jJ ?_ | refine jK ?_ | refine jL ?_) | refine jM (by omega) ?_ | refine jN (by omega) ?_ | with_reducible refine jM rfl ?_ | refine jM (by assumption) ?_ | refine jN (by assumption) ?_ | refine jM (by decide) ?_ | refine jN (by decide) ?_) | refine jF (ptr_ok tblOk rfl rfl) ?_ | refine jO (fun _ => by kernel_rfl) ?_ | refine jF (by decide) ?_ | refine hS.ld rfl ?_ | refine hS.ldn rfl ?_ | (refine hS.st rfl rfl ?_; intro _ hS))
    rw [e1, htk]
    refine Cl.mono (Atoi_spec (s := s') (by omega) hE1) ?_
    rintro _ w2 ⟨hS', n, ev, rfl, hev⟩
    have hS := hS.call0 hS'
    have hpb : parseB s = if labelB n c.toNat = s then some (n, c.toNat) else none := by
      have hpb : parseB s = match Lib.atoiAll s' with
          | .ok n => if labelB n c.toNat = s then some (n, c.toNat) else none
          | _ => none := by unfold parseB; rw [hgl]; simp only; rw [hdl]; rfl
      rcases hev with ⟨ha, -⟩ | ⟨ha, hn, -⟩
      · rw [hpb, ha]
      · have hl : labelB n c.toNat = [45] := (labelB_dash _ _).2 (by
          cases h : seatOk n c.toNat with
          | false => rfl
          | true => have := seatOk_iff.1 h; omega)
        have hne : ¬ labelB n c.toNat = s := by
          rw [hl]; intro h
          have := congrArg List.length h
          simp at this; omega
        rw [hpb, if_neg hne]
        cases h : Lib.atoiAll s'
        · exact absurd h (ha _)
        · rfl
        · rfl
    clear hev
    by_cases hlab : labelB n c.toNat = s
    · rw [if_pos hlab] at hpb
      rw [hpb]
      repeat (first | refine SemW.run tblOk ?_ | refine jA (by omega) ?_ | refine jB (by omega) ?_ | refine jC (by omega) ?_ | refine jD (by omega) ?_ | refine jE rfl ?_ | refine jF (by omega) ?_ | (refine jG ?_; first | with_reducible (first | refine jH ?_ | refine jI ?_ | refine jJ ?_ | refine jK ?_ | refine jL ?_) | refine jM (by omega) ?_ | refine jN (by omega) ?_ | with_reducible refine jM rfl ?_ | refine jM (by assumption) ?_ | refine jN (by assumption) ?_ | refine jM (by decide) ?_ | refine jN (by decide) ?_) | refine jF (ptr_ok tblOk rfl rfl) ?_ | refine jO (fun _ => by kernel_rfl) ?_ | refine jF (by decide) ?_ | refine hS.ld rfl ?_ | refine hS.ldn rfl ?_ | (refine hS.st rfl rfl ?_; intro _ hS))
      rw [e1, hcc]
      repeat (first | refine SemW.run tblOk ?_ | refine jA (by omega) ?_ | refine jB (by omega) ?_ | refine jC (by omega) ?_ | refine jD (by omega) ?_ | refine jE rfl ?_ | refine jF (by omega) ?_ | (refine jG ?_; first | with_reducible (first | refine jH ?_ | refine jI ?_ | refine jJ ?_ | refine jK ?_ | refine jL ?_) | refine jM (by omega) ?_ | refine jN (by omega) ?_ | with_reducible refine jM rfl ?_ | refine jM (by assumption) ?_ | refine jN (by assumption) ?_ | refine jM (by decide) ?_ | refine jN (by decide) ?_) | refine jF (ptr_ok tblOk rfl rfl) ?_ | refine jO (fun _ => by kernel_rfl) ?_ | refine jF (by decide) ?_ | refine hS.ld rfl ?_ | refine hS.ldn rfl ?_ | (refine hS.st rfl rfl ?_; intro _ hS))
      refine hS.al ?_
      intro b2 w3 _ hS
      repeat (first | refine SemW.run tblOk ?_ | refine jA (by omega) ?_ | refine jB (by omega) ?_ | refine jC (by omega) ?_ | refine jD (by omega) ?_ | refine jE rfl ?_ | refine jF (by omega) ?_ | (refine jG ?_; first | with_reducible (first | refine jH ?_ | refine jI ?_ | refine jJ ?_ | refine jK ?_ | refine jL ?_) | refine jM (by omega) ?_ | refine jN (by omega) ?_ | with_reducible refine jM rfl ?_ | refine jM (by assumption) ?_ | refine jN (by assumption) ?_ | refine jM (by decide) ?_ | refine jN (by decide) ?_) | refine jF (ptr_ok tblOk rfl rfl) ?_ | refine jO (fun _ => by kernel_rfl) ?_ | refine jF (by decide) ?_ | refine hS.ld rfl ?_ | refine hS.ldn rfl ?_ | (refine hS.st rfl rfl ?_; intro _ hS))
      refine Cl.mono (R13Label_spec n c.toNat hcl) ?_
      rintro _ w4 ⟨rfl, hS'⟩
      have hS := hS.call0 hS'
      rw [hlab]
      repeat (first | refine SemW.run tblOk ?_ | refine jA (by omega) ?_ | refine jB (by omega) ?_ | refine jC (by omega) ?_ | refine jD (by omega) ?_ | refine jE rfl ?_ | refine jF (by omega) ?_ | (refine jG ?_; first | with_reducible (first | refine jH ?_ | refine jI ?_ | refine jJ ?_ | refine jK ?_ | refine jL ?_) | refine jM (by omega) ?_ | refine jN (by omega) ?_ | with_reducible refine jM rfl ?_ | refine jM (by assumption) ?_ | refine jN (by assumption) ?_ | refine jM (by decide) ?_ | refine jN (by decide) ?_) | refine jF (ptr_ok tblOk rfl rfl) ?_ | refine jO (fun _ => by kernel_rfl) ?_ | refine jF (by decide) ?_ | refine hS.ld rfl ?_ | refine hS.ldn rfl ?_ | (refine hS.st rfl rfl ?_; intro _ hS))
      exact ⟨rfl, hS.nil⟩
    · rw [if_neg hlab] at hpb
      rw [hpb]
      repeat (first | refine SemW.run tblOk ?_ | refine jA (by omega) ?_ | refine jB (by omega) ?_ | refine jC (by omega) ?_ | refine jD (by omega) ?_ | refine jE rfl ?_ | refine jF (by omega) ?_ | (refine jG ?_; first | with_reducible (first | refine jH ?_ | refine jI ?_ | refine jJ ?_ | refine jK ?_ | refine jL ?_) | refine jM (by omega) ?_ | refine jN (by omega) ?_ | with_reducible refine jM rfl ?_ | refine jM (by assumption) ?_ | refine jN (by assumption) ?_ | refine jM (by decide) ?_ | refine jN (by decide) ?_) | refine jF (ptr_ok tblOk rfl rfl) ?_ | refine jO (fun _ => by kernel_rfl) ?_ | refine jF (by decide) ?_ | refine hS.ld rfl ?_ | refine hS.ldn rfl ?_ | (refine hS.st rfl rfl ?_; intro _ hS))
      rw [e1, hcc]
      repeat (first | refine SemW.run tblOk ?_ | refine jA (by omega) ?_ | refine jB (by omega) ?_ | refine jC (by omega) ?_ | refine jD (by omega) ?_ | refine jE rfl ?_ | refine jF (by omega) ?_ | (refine jG ?_; first | with_reducible (first | refine jH ?_ | refine jI ?_ | refine jJ ?_ | refine jK ?_ | refine jL ?_) | refine jM (by omega) ?_ | refine jN (by omega) ?_ | with_reducible refine jM rfl ?_ | refine jM (by assumption) ?_ | refine jN (by assumption) ?_ | refine jM (by decide) ?_ | refine jN (by decide) ?_) | refine jF (ptr_ok tblOk rfl rfl) ?_ | refine jO (fun _ => by kernel_rfl) ?_ | refine jF (by decide) ?_ | refine hS.ld rfl ?_ | refine hS.ldn rfl ?_ | (refine hS.st rfl rfl ?_; intro _ hS))
      refine hS.al ?_
      intro b2 w3 _ hS
      repeat (first | refine SemW.run tblOk ?_ | refine jA (by omega) ?_ | refine jB (by omega) ?_ | refine jC (by omega) ?_ | refine jD (by omega) ?_ | refine jE rfl ?_ | refine jF (by omega) ?_ | (refine jG ?_; first | with_reducible (first | refine jH ?_ | refine jI ?_ | refine jJ ?_ | refine jK ?_ | refine jL ?_) | refine jM (by omega) ?_ | refine jN (by omega) ?_ | with_reducible refine jM rfl ?_ | refine jM (by assumption) ?_ | refine jN (by assumption) ?_ | refine jM (by decide) ?_ | refine jN (by decide) ?_) | refine jF (ptr_ok tblOk rfl rfl) ?_ | refine jO (fun _ => by kernel_rfl) ?_ | refine jF (by decide) ?_ | refine hS.ld rfl ?_ | refine hS.ldn rfl ?_ | (refine hS.st rfl rfl ?_; intro _ hS))
      refine Cl.mono (R13Label_spec n c.toNat hcl) ?_
      rintro _ w4 ⟨rfl, hS'⟩
      have hS := hS.call0 hS'
      repeat (first | refine SemW.run tblOk ?_ | refine jA (by omega) ?_ | refine jB (by omega) ?_ | refine jC (by omega) ?_ | refine jD (by omega) ?_ | refine jE rfl ?_ | refine jF (by omega) ?_ | (refine jG ?_; first | with_reducible (first | refine jH ?_ | refine jI ?_ | refine jJ ?_ | refine jK ?_ | refine jL ?_) | refine jM (by omega) ?_ | refine jN (by omega) ?_ | with_reducible refine jM rfl ?_ | refine jM (by assumption) ?_ | refine jN (by assumption) ?_ | refine jM (by decide) ?_ | refine jN (by decide) ?_) | refine jF (ptr_ok tblOk rfl rfl) ?_ | refine jO (fun _ => by kernel_rfl) ?_ | refine jF (by decide) ?_ | refine hS.ld rfl ?_ | refine hS.ldn rfl ?_ | (refine hS.st rfl rfl ?_; intro _ hS))
      exact ⟨rfl, hS.nil⟩
end Go.Proofs.YthpmmfapolcaiaaGreatDoor

/- Plain laws of keys: letters and numbers, in order. -/
namespace Go.Proofs.YthpmmfapolcaiaaGreatDoor
open Go Go.Eng

/-- k bytes of a number, the greatest first. -/
def beN : Nat → Nat → Bytes
  | 0, _ => []
  | k + 1, n => UInt8.ofNat (n / 256 ^ k) :: beN k n
theorem be8_eq (n : Nat) : be8 n = beN 8 n := by simp [be8, beN]
theorem beN_len : ∀ k n, (beN k n).length = k
  | 0, _ => rfl
  | k + 1, n => by simp [beN, beN_len k n]
theorem less_cons (x y : UInt8) (xs ys : Bytes) : Op.bytesLess (x :: xs) (y :: ys) = (decide (x.toNat < y.toNat) || (decide (x.toNat = y.toNat) && Op.bytesLess xs ys)) := by
  show (decide (x < y) || (x == y && Op.bytesLess xs ys)) = _
  have e1 : decide (x < y) = decide (x.toNat < y.toNat) := by
    rw [decide_eq_decide]; exact UInt8.lt_iff_toNat_lt
  have e2 : (x == y) = decide (x.toNat = y.toNat) := by
    rw [Bool.eq_iff_iff, beq_iff_eq, decide_eq_true_eq]
    exact ⟨fun h => by rw [h], fun h => UInt8.toNat_inj.1 h⟩
  rw [e1, e2]
theorem beN_less : ∀ k a b, Op.bytesLess (beN k a) (beN k b) = decide (a % 256 ^ k < b % 256 ^ k)
  | 0, a, b => by simp [beN, Op.bytesLess, Nat.mod_one]
  | k + 1, a, b => by
    have hP : 0 < 256 ^ k := Nat.pow_pos (by omega)
    rw [beN, beN, less_cons, beN_less k a b]
    have e1 : ∀ n, (UInt8.ofNat (n / 256 ^ k)).toNat = n / 256 ^ k % 256 := fun n => by simp
    have e2 : ∀ n, n % 256 ^ (k + 1) = n % 256 ^ k + 256 ^ k * (n / 256 ^ k % 256) := fun n => by rw [Nat.pow_succ, Nat.mod_mul]
    rw [e1, e1, e2, e2]
    have ha : a % 256 ^ k < 256 ^ k := Nat.mod_lt _ hP
    have hb : b % 256 ^ k < 256 ^ k := Nat.mod_lt _ hP
    generalize 256 ^ k = P at *
    generalize a / P % 256 = x
    generalize b / P % 256 = y
    generalize a % P = r at *
    generalize b % P = s at *
    rw [Bool.eq_iff_iff]
    simp only [Bool.or_eq_true, Bool.and_eq_true, decide_eq_true_eq]
    rcases Nat.lt_trichotomy x y with h | h | h
    · have : P * x + P ≤ P * y := by rw [← Nat.mul_succ]; exact Nat.mul_le_mul_left P h
      constructor
      · intro _; omega
      · intro _; exact .inl h
    · subst h
      constructor
      · rintro (h | ⟨-, h⟩)
        · omega
        · omega
      · intro h; exact .inr ⟨rfl, by omega⟩
    · have : P * y + P ≤ P * x := by rw [← Nat.mul_succ]; exact Nat.mul_le_mul_left P h
      constructor
      · rintro (h' | ⟨h', -⟩) <;> omega
      · intro _; omega
theorem less_pre : ∀ (p x y : Bytes), Op.bytesLess (p ++ x) (p ++ y) = Op.bytesLess x y
  | [], _, _ => rfl
  | c :: p, x, y => by
    rw [List.cons_append, List.cons_append, less_cons, less_pre p x y]; simp
def unum (n : Int) : Nat := (n + 9223372036854775808).toNat
/-- The key of a letter and a number; where the states' records end. -/
def keyB (c : UInt8) (n : Int) : Bytes := [2, c, 0, 0, 1] ++ be8 (unum n)
def endB : Bytes := [2, 114, 0, 0]
theorem keyB_len (c : UInt8) (n : Int) : (keyB c n).length = 13 := by simp [keyB, be8]
theorem key_less (c : UInt8) {n m : Int} (hn : -9223372036854775808 ≤ n ∧ n ≤ 9223372036854775807) (hm : -9223372036854775808 ≤ m ∧ m ≤ 9223372036854775807) : Op.bytesLess (keyB c n) (keyB c m) = decide (n < m) := by
  unfold keyB
  rw [less_pre, be8_eq, be8_eq, beN_less, decide_eq_decide]
  have h1 : unum n < 256 ^ 8 := by show unum n < 18446744073709551616; unfold unum; omega
  have h2 : unum m < 256 ^ 8 := by show unum m < 18446744073709551616; unfold unum; omega
  rw [Nat.mod_eq_of_lt h1, Nat.mod_eq_of_lt h2]
  unfold unum; omega
theorem key_letters {c d : UInt8} (h : c.toNat < d.toNat) (n m : Int) : Op.bytesLess (keyB c n) (keyB d m) = true := by
  unfold keyB
  show Op.bytesLess (2 :: c :: ([0, 0, 1] ++ be8 (unum n))) (2 :: d :: ([0, 0, 1] ++ be8 (unum m))) = true
  rw [less_cons, less_cons]
  simp [h]
theorem key_end {c : UInt8} (h : c.toNat < 114) (n : Int) : Op.bytesLess (keyB c n) endB = true := by
  unfold keyB endB
  show Op.bytesLess (2 :: c :: ([0, 0, 1] ++ be8 (unum n))) (2 :: 114 :: [0, 0]) = true
  rw [less_cons, less_cons]
  have : (114 : UInt8).toNat = 114 := rfl
  simp [this, h]
theorem reply_end (n : Int) : Op.bytesLess (keyB 114 n) endB = false := by
  unfold keyB endB
  show Op.bytesLess (2 :: 114 :: 0 :: 0 :: 1 :: be8 (unum n)) (2 :: 114 :: 0 :: 0 :: []) = false
  rw [less_cons, less_cons, less_cons, less_cons]
  rfl
theorem beN_inj : ∀ (k a b : Nat), a < 256 ^ k → b < 256 ^ k → beN k a = beN k b → a = b := by
  intro k a b ha hb h
  have h1 := beN_less k a b
  have h2 := beN_less k b a
  rw [h] at h1
  rw [h, ← h] at h2
  rw [Nat.mod_eq_of_lt ha, Nat.mod_eq_of_lt hb] at h1 h2
  have h3 : Op.bytesLess (beN k b) (beN k b) = false := by rw [beN_less]; simp
  rw [h3] at h1
  rw [h, h3] at h2
  have := of_decide_eq_false h1.symm
  have := of_decide_eq_false h2.symm
  omega
theorem keyB_inj {c : UInt8} {n m : Int} (hn : -9223372036854775808 ≤ n ∧ n ≤ 9223372036854775807) (hm : -9223372036854775808 ≤ m ∧ m ≤ 9223372036854775807) (h : keyB c n = keyB c m) : n = m := by
  have h1 := List.append_cancel_left h
  rw [be8_eq, be8_eq] at h1
  have := beN_inj 8 (unum n) (unum m) (by show unum n < 18446744073709551616; unfold unum; omega) (by show unum m < 18446744073709551616; unfold unum; omega) h1
  unfold unum at this; omega
end Go.Proofs.YthpmmfapolcaiaaGreatDoor

/- From a contract (Cl) to the statement: arguments opened, post shut. -/
namespace Go.Proofs.YthpmmfapolcaiaaGreatDoor
open Go Go.Eng Go.Proofs
open Go.ChangeShapes Go.WideShapes Go.ChangeAt Go.RowKit

theorem ownTry : ownKnob Tryz.prog.godebug = none := by kernel_rfl
theorem laidTry : laidOutB Tryz.prog = true := by kernel_rfl
theorem calls_of_cl {P : Program} {f : FuncId} {args : List Value} {w : World} {R : Value → World → Prop} (hc : ∀ (args : Array Value) (w : World), (callFunc f args).run P w = .ok (.enter f args) w)
    (h : Cl P f args w R) : Calls P f ⟨args⟩ w fun e w' => ∃ v, e = .returned v ∧ R v w' := by
  rcases h with ⟨_, h⟩ | ⟨v, w', h, _⟩
  · exact h
  · rw [hc] at h; cases h
theorem St.below {w w' : World} (h : St w [] [] w') : Below w.heap.size w w' := ⟨h.os, h.tape, h.output, h.size, fun k hk => h.old k hk (by simp)⟩
theorem trodAll_below {H : Type} {enc : TypeId × Value → H} {P : Program} (hl : laidOutB P = true) {W W' : World} (hb : Below W.heap.size W W') : ∀ {ts : List TypeId} {vs : List Value} {ds : List (DataW H)} {ps : List MemPlace},
    (ts.all fun t => P.readableRec t && decide (t < P.types.size)) = true → (∀ x ∈ ps, x.block < W.heap.size) → DataW.TrodAll enc P W 0 (fun _ => true) true ts vs ds ps →
    DataW.TrodAll enc P W' 0 (fun b => decide (b < W.heap.size)) true ts vs ds ps
  | [], [], [], _, _, _, h => h
  | t :: ts, v :: vs, d :: ds, ps, ht, hlt, ⟨p, q, h1, h2, e⟩ => by
    subst e
    simp only [List.all_cons, Bool.and_eq_true, decide_eq_true_eq] at ht
    exact ⟨p, q, Below.trod hl ht.1.1 ht.1.2 h1 hb (fun x hx => hlt x (by simp [hx])), trodAll_below hl hb (by simpa using ht.2) (fun x hx => hlt x (by simp [hx])) h2, rfl⟩
  | [], [], _ :: _, _, _, _, h => h.elim
  | [], _ :: _, _, _, _, _, h => h.elim
  | _ :: _, [], _, _, _, _, h => h.elim
  | _ :: _, _ :: _, [], _, _, _, h => h.elim

theorem post_true {H : Type} {enc : TypeId × Value → H} {P : Program} {f : Func} {s : ChangeSpec} {W W' : World} {args : Array Value} {ds gs : List (DataW H)} {before : List MemPlace} (hl : laidOutB P = true)
    (hts : (f.params.toList.all fun t => P.readableRec t && decide (t < P.types.size)) = true) {tb : TypeId} (hrt : f.resultTypes = #[tb]) (hb : P.underlying tb = some .bool)
    (hW : DataW.Whole enc P f.params.toList s.vars false W args.toList ds gs before) (hv : s.vars = []) (hfn : gs = [] → s.fn H (ds ++ gs) = { results := [.lit (.bool true)], args := ds }) (hst : St W [] [] W') :
    s.post enc P f false true false false W args (.bool true) W' := by
  have hW' := hW
  obtain ⟨p, q, hA, hV, rfl, _, _⟩ := hW
  rw [hv] at hV
  obtain ⟨rfl, rfl⟩ := trodVars_none hV
  have hlt : ∀ x ∈ p, x.block < W.heap.size := fun x hx => by have := hW'.lt x (by simp [hx]); simpa using this
  refine ⟨ds, [], _, [], p, [], hW', ?_, ?_, ?_, (St.below hst).frame _, fun h => by cases h⟩
  · rw [hfn rfl, hrt]
    exact trodAll_mk1 (shut_bool hb _)
  · rw [hfn rfl]
    exact trodAll_below hl (St.below hst) hts hlt hA
  · rw [hfn rfl, hv]
    rfl

theorem Str_of (s : ByteArray) : Value.string s = Str s.data.toList := by
  cases s; rfl
theorem bulk_strs {H : Type} : ∀ ss : List ByteArray, Rows.uptoBulkAll (strs (H := H) ss) = sumLen (ss.map (·.data.toList)) + ss.length
  | [] => rfl
  | s :: r => by
    have ih := bulk_strs (H := H) r
    simp only [strs, sumLen, List.map_cons, List.sum_cons, List.length_cons, Rows.uptoBulkAll, Rows.uptoBulk] at ih ⊢
    omega
theorem open_strsA {H : Type} {enc : TypeId × Value → H} {P : Program} {W : World} {r : Reach} {b0 : Nat} {t e : TypeId} {v : Value} {d : DataW H} {p : List MemPlace} (ht : P.underlying t = some (.slice e)) (he : P.underlying e = some .string) (hc : P.cellsOf e = 1)
    (hval : Value.okWide P W r b0 t v) (hd : DataW.Trod enc P W 0 (fun _ => true) true t v d p) :
    ∃ (a : Option Addr) (cap : Nat) (ps : List Bytes), v = .slice a ps.length cap ∧ ps.length ≤ cap ∧ cap ≤ maxLen ∧ Arr W [] a (ps.map Str) ∧ sumLen ps + cap + 1 ≤ Rows.uptoBulk d ∧ (∀ x ∈ ps, x.length ≤ maxLen) := by
  obtain ⟨a0, len, cap, rfl⟩ := okWide_slice ht hval
  obtain ⟨fuel, hf⟩ := hd
  rcases open_strings ht he hc hf with ⟨hcs, hx⟩ | ⟨a, len', cap', ss, hcs, _, hl, hm, hz, hx, hcell, hsz⟩
  · simp [Value.cells] at hcs
    obtain ⟨rfl, rfl, rfl⟩ := hcs
    simp only [Prod.mk.injEq] at hx
    obtain ⟨rfl, rfl⟩ := hx
    exact ⟨none, 0, [], rfl, Nat.le_refl _, by decide, Arr.nil _ _ _, by simp [sumLen, Rows.uptoBulk], by simp⟩
  · simp [Value.cells] at hcs
    obtain ⟨rfl, rfl, rfl⟩ := hcs
    simp only [Prod.mk.injEq] at hx
    obtain ⟨rfl, rfl⟩ := hx
    simp only [if_true] at hz
    have hlen : ((ss.take len).map (·.data.toList)).length = len := by simp; omega
    refine ⟨some a, cap, (ss.take len).map (·.data.toList), by rw [hlen], by rw [hlen]; exact hl, hm, ?_, ?_, ?_⟩
    · intro j x hj
      have hjl : j < len := by
        have := (List.getElem?_eq_some_iff.1 hj).1
        simp at this; omega
      have hcj := hcell j (by omega)
      obtain ⟨b, off, spot⟩ := a
      have hspot : spot = none := by simpa [Addr.add] using World.cell?_spot (hcell 0 (by omega))
      subst hspot
      refine ⟨b, off, rfl, by simp, ?_⟩
      rw [add_plain] at hcj
      rw [hcj]
      have : x = Str (ss.getD j ByteArray.empty).data.toList := by
        have hjs : j < ss.length := by omega
        simp [hjl, hjs] at hj
        simp [List.getD_eq_getElem?_getD, hjs, ← hj]
      rw [this, Str_of]
    · have e1 := bulk_strs (H := H) (ss.take len)
      have e2 := bulk_strs (H := H) (ss.drop len)
      simp only [Rows.uptoBulk, e1, e2, List.length_take, List.length_drop]
      omega
    · intro x hx
      obtain ⟨s, hs, rfl⟩ := List.mem_map.1 hx
      rw [Array.length_toList]
      exact hsz s (List.mem_of_mem_take hs)
theorem open_intsA {H : Type} {enc : TypeId × Value → H} {P : Program} {W : World} {r : Reach} {b0 : Nat} {t e : TypeId} {v : Value} {d : DataW H} {p : List MemPlace} (ht : P.underlying t = some (.slice e)) (he : P.underlying e = some (.int .i64)) (hc : P.cellsOf e = 1)
    (hval : Value.okWide P W r b0 t v) (hd : DataW.Trod enc P W 0 (fun _ => true) true t v d p) :
    ∃ (a : Option Addr) (cap : Nat) (zs : List Int), v = .slice a zs.length cap ∧ zs.length ≤ cap ∧ cap ≤ maxLen ∧ Arr W [] a (zs.map intV) ∧ cap + 1 ≤ Rows.uptoBulk d ∧ (∀ x ∈ zs, -9223372036854775808 ≤ x ∧ x ≤ 9223372036854775807) := by
  obtain ⟨a0, len, cap, rfl⟩ := okWide_slice ht hval
  obtain ⟨fuel, hf⟩ := hd
  rcases open_ints ht he hc hf with ⟨hcs, hx⟩ | ⟨a, len', cap', ss, hcs, _, hl, hm, hz, hx, hcell, hsz⟩
  · simp [Value.cells] at hcs
    obtain ⟨rfl, rfl, rfl⟩ := hcs
    simp only [Prod.mk.injEq] at hx
    obtain ⟨rfl, rfl⟩ := hx
    exact ⟨none, 0, [], rfl, Nat.le_refl _, by decide, Arr.nil _ _ _, by simp [Rows.uptoBulk], by simp⟩
  · simp [Value.cells] at hcs
    obtain ⟨rfl, rfl, rfl⟩ := hcs
    simp only [Prod.mk.injEq] at hx
    obtain ⟨rfl, rfl⟩ := hx
    simp only [if_true] at hz
    have hlen : (ss.take len).length = len := by simp; omega
    refine ⟨some a, cap, ss.take len, by rw [hlen], by rw [hlen]; exact hl, hm, ?_, ?_, ?_⟩
    · intro j x hj
      have hjl : j < len := by
        have := (List.getElem?_eq_some_iff.1 hj).1
        simp at this; omega
      have hcj := hcell j (by omega)
      obtain ⟨b, off, spot⟩ := a
      have hspot : spot = none := by simpa [Addr.add] using World.cell?_spot (hcell 0 (by omega))
      subst hspot
      refine ⟨b, off, rfl, by simp, ?_⟩
      rw [add_plain] at hcj
      rw [hcj]
      have : x = intV (ss.getD j 0) := by
        have hjs : j < ss.length := by omega
        simp [hjl, hjs] at hj
        simp [List.getD_eq_getElem?_getD, hjs, ← hj]
      rw [this]; rfl
    · have e1 : ∀ l : List Int, Rows.uptoBulkAll (lits (H := H) .i64 l) = l.length := by
        intro l
        induction l with
        | nil => rfl
        | cons x r ih => simp only [lits, List.map_cons, Rows.uptoBulkAll, Rows.uptoBulk, List.length_cons] at ih ⊢; omega
      simp only [Rows.uptoBulk, e1, List.length_take, List.length_drop]
      omega
    · intro x hx
      have := hsz x (List.mem_of_mem_take hx)
      simpa [Lit.wf, IntKind.min, IntKind.max, IntKind.signed, IntKind.bits] using this
theorem bulk1 {H : Type} {d1 : DataW H} (h : Rows.uptoSmall H [d1] = true) : Rows.uptoBulk d1 ≤ 1048576 := by
  have h : Rows.uptoBulkAll [d1] ≤ 1048576 := of_decide_eq_true h
  simp only [Rows.uptoBulkAll] at h; omega
theorem bulk2 {H : Type} {d1 d2 : DataW H} (h : Rows.uptoSmall H [d1, d2] = true) : Rows.uptoBulk d1 + Rows.uptoBulk d2 ≤ 1048576 := by
  have h : Rows.uptoBulkAll [d1, d2] ≤ 1048576 := of_decide_eq_true h
  simp only [Rows.uptoBulkAll] at h; omega
theorem bulk3 {H : Type} {d1 d2 d3 : DataW H} (h : Rows.uptoSmall H [d1, d2, d3] = true) : Rows.uptoBulk d1 + Rows.uptoBulk d2 + Rows.uptoBulk d3 ≤ 1048576 := by
  have h : Rows.uptoBulkAll [d1, d2, d3] ≤ 1048576 := of_decide_eq_true h
  simp only [Rows.uptoBulkAll] at h; omega
end Go.Proofs.YthpmmfapolcaiaaGreatDoor

/- Arguments of any shape, opened: what their cells say, and how much they are. -/
namespace Go.Proofs.YthpmmfapolcaiaaGreatDoor
open Go Go.Eng Go.Proofs
open Go.ChangeShapes Go.WideShapes Go.ChangeAt Go.RowKit

/-- What the cells of a type are, as read of a world. -/
abbrev CellR (β : Type) := World → List Value → β → Prop
structure Opens (P : Program) (t : TypeId) {β : Type} (R : CellR β) (bulk : β → Nat) : Prop where
  out : ∀ {H : Type} {enc : TypeId × Value → H} {W : World} {fuel : Nat} {cs : List Value} {x : DataW H × List MemPlace}, DataW.trod enc P W 0 (fun _ => true) true fuel t cs = some x → ∃ b, R W cs b ∧ bulk b ≤ Rows.uptoBulk x.1

def RStr : CellR Bytes := fun _ cs s => cs = [Str s] ∧ s.length ≤ maxLen
def RInt (k : IntKind) : CellR Int := fun _ cs n => cs = [.int k n] ∧ (Lit.int k n).wf = true
def RBool : CellR Bool := fun _ cs b => cs = [.bool b]
structure RSl {β : Type} (sz : Nat) (R : CellR β) (W : World) (cs : List Value) (xs : List β) : Prop where
  ex : ∃ (a : Option Addr) (cap : Nat), cs = [.slice a xs.length cap] ∧ xs.length ≤ cap ∧ cap ≤ maxLen ∧
    ∀ j (h : j < xs.length), ∃ b off cs', a = some ⟨b, off, none⟩ ∧ cs'.length = sz ∧ (∀ i v, cs'[i]? = some v → W.cell? ⟨b, off + (j * sz + i), none⟩ = some v) ∧ R W cs' xs[j]
def RPair {α β : Type} (n : Nat) (R : CellR α) (S : CellR β) : CellR (α × β) := fun W cs x => R W (cs.take n) x.1 ∧ S W (cs.drop n) x.2

theorem Opens.str {P : Program} {t : TypeId} (ht : P.underlying t = some .string) : Opens P t RStr (fun s => s.length + 1) := by
  refine ⟨fun {H enc W fuel cs x} h => ?_⟩
  obtain ⟨s, rfl, rfl, hs⟩ := DataW.trod_string ht h
  exact ⟨s.data.toList, ⟨by rw [Str_of], by rw [Array.length_toList]; exact hs⟩, Nat.le_refl _⟩
theorem Opens.int {P : Program} {t : TypeId} {k : IntKind} (ht : P.underlying t = some (.int k)) : Opens P t (RInt k) (fun _ => 1) := by
  refine ⟨fun {H enc W fuel cs x} h => ?_⟩
  obtain ⟨n, rfl, rfl, hs⟩ := DataW.trod_int ht h
  exact ⟨n, ⟨rfl, hs⟩, Nat.le_refl _⟩
theorem Opens.bool {P : Program} {t : TypeId} (ht : P.underlying t = some .bool) : Opens P t RBool (fun _ => 1) := by
  refine ⟨fun {H enc W fuel cs x} h => ?_⟩
  obtain ⟨n, rfl, rfl⟩ := DataW.trod_bool ht h
  exact ⟨n, rfl, Nat.le_refl _⟩
theorem bulk_range {H : Type} {β : Type} (bulk : β → Nat) : ∀ (xs : List β) (D : Nat → DataW H), (∀ j (h : j < xs.length), bulk xs[j] ≤ Rows.uptoBulk (D j)) → (xs.map bulk).sum ≤ Rows.uptoBulkAll ((List.range xs.length).map D)
  | [], _, _ => by simp
  | x :: r, D, h => by
    have ih := bulk_range bulk r (fun j => D (j + 1)) (fun j hj => h (j + 1) (by simpa using hj))
    have h0 := h 0 (by simp)
    rw [List.length_cons, List.range_succ_eq_map, List.map_cons, List.map_cons, List.map_map, List.sum_cons]
    simp only [Rows.uptoBulkAll]
    have : Function.comp D Nat.succ = fun j => D (j + 1) := rfl
    rw [this]
    simp only [List.getElem_cons_zero] at h0
    omega
theorem Opens.slice {P : Program} {t e : TypeId} {β : Type} {R : CellR β} {bulk : β → Nat} (ht : P.underlying t = some (.slice e)) {sz : Nat} (hc : P.cellsOf e = sz) (h0 : 0 < sz) (he : Opens P e R bulk) :
    Opens P t (RSl sz R) (fun xs => (xs.map bulk).sum + 1) := by
  refine ⟨fun {H enc W fuel cs x} h => ?_⟩
  rcases Go.Deep.open_slice ht h with ⟨rfl, rfl⟩ | ⟨a, len, cap, m, n, D, Pl, rfl, -, hl, hm, hmm, rfl, hx⟩
  · exact ⟨[], ⟨none, 0, rfl, Nat.le_refl _, by decide, fun j h => by simp at h⟩, by simp [Rows.uptoBulk]⟩
  rw [if_pos rfl] at hmm
  subst hmm
  rw [hc] at hx
  have hall : ∀ i, i < len → ∃ b : β, (∃ cs', W.cells? 0 (a.add (i * sz)) sz = some cs' ∧ R W cs' b) ∧ bulk b ≤ Rows.uptoBulk (D i) := by
    intro i hi
    obtain ⟨cs', h1, h2⟩ := hx i (by omega)
    obtain ⟨b, h3, h4⟩ := he.out h2
    exact ⟨b, ⟨cs', h1, h3⟩, h4⟩
  have hxs : ∃ xs : List β, xs.length = len ∧ ∀ i (hi : i < xs.length), (∃ cs', W.cells? 0 (a.add (i * sz)) sz = some cs' ∧ R W cs' xs[i]) ∧ bulk xs[i] ≤ Rows.uptoBulk (D i) := by
    clear h hx hl hm
    induction len with
    | zero => exact ⟨[], rfl, fun i hi => by simp at hi⟩
    | succ k ih =>
      obtain ⟨xs, hxl, hxs⟩ := ih (fun i hi => hall i (by omega))
      obtain ⟨b, hb⟩ := hall k (by omega)
      refine ⟨xs ++ [b], by simp [hxl], fun i hi => ?_⟩
      by_cases hik : i < xs.length
      · rw [List.getElem_append_left hik]; exact hxs i hik
      · have : i = k := by simp at hi; omega
        subst this
        rw [List.getElem_append_right (by omega)]
        simpa [hxl] using hb
  obtain ⟨xs, rfl, hxs⟩ := hxs
  refine ⟨xs, ⟨some a, _, rfl, hl, hm, fun j hj => ?_⟩, ?_⟩
  · obtain ⟨⟨cs', h1, h2⟩, -⟩ := hxs j hj
    obtain ⟨_, h3, h4⟩ := World.cells?_some h1
    obtain ⟨b, off, spot⟩ := a
    have hcell : ∀ i v, cs'[i]? = some v → W.cell? ((Addr.mk b off spot).add (j * sz + i)) = some v := by
      intro i v hv
      have := h4 i (by have := (List.getElem?_eq_some_iff.1 hv).1; omega)
      rw [hv] at this
      rwa [Go.Deep.add_add] at this
    have hspot : spot = none := by
      obtain ⟨⟨cs0, k1, -⟩, -⟩ := hxs 0 (by omega)
      obtain ⟨_, k3, k4⟩ := World.cells?_some k1
      have := k4 0 h0
      rw [List.getElem?_eq_getElem (show 0 < cs0.length by omega)] at this
      simpa [Addr.add] using World.cell?_spot this
    subst hspot
    refine ⟨b, off, cs', rfl, h3, fun i v hv => ?_, h2⟩
    have := hcell i v hv
    rwa [add_plain] at this
  · have := bulk_range bulk xs D (fun j hj => (hxs j hj).2)
    simp only [Rows.uptoBulk]
    omega
theorem Opens.pair {P : Program} {t : TypeId} {f0 f1 : Field} {α β : Type} {R : CellR α} {S : CellR β} {b0 : α → Nat} {b1 : β → Nat} (ht : P.underlying t = some (.struct #[f0, f1])) {s0 s1 : Nat} (o0 : f0.offset = 0) (o1 : f1.offset = s0)
    (c0 : P.cellsOf f0.type = s0) (c1 : P.cellsOf f1.type = s1) (ct : P.cellsOf t = s0 + s1) (h0 : Opens P f0.type R b0) (h1 : Opens P f1.type S b1) : Opens P t (RPair s0 R S) (fun x => b0 x.1 + b1 x.2 + 1) := by
  refine ⟨fun {H enc W fuel cs x} h => ?_⟩
  obtain ⟨xs, n, -, rfl, hl, hxl, hx⟩ := DataW.trod_struct ht h
  have e0 := hx 0 f0 rfl
  have e1 := hx 1 f1 rfl
  have hx2 : xs.length = 2 := by simpa using hxl
  rw [o0, c0, List.drop_zero] at e0
  rw [o1, c1, List.take_of_length_le (by rw [List.length_drop]; omega)] at e1
  rw [List.getElem?_eq_getElem (show 0 < xs.length by omega)] at e0
  rw [List.getElem?_eq_getElem (show 1 < xs.length by omega)] at e1
  obtain ⟨a, g0, g1⟩ := h0.out e0
  obtain ⟨b, g2, g3⟩ := h1.out e1
  refine ⟨(a, b), ⟨g0, g2⟩, ?_⟩
  match xs, hx2 with
  | [u, v], _ =>
    simp only [List.getElem_cons_zero, List.getElem_cons_succ] at g1 g3
    simp only [List.map_cons, List.map_nil, Rows.uptoBulk, Rows.uptoBulkAll]
    omega
/-- A struct's fields from the offset o on. -/
structure OpensFs (P : Program) (o : Nat) (fs : List Field) (sz : Nat) {β : Type} (R : CellR β) (bulk : β → Nat) : Prop where
  out : ∀ {H : Type} {enc : TypeId × Value → H} {W : World} {fuel : Nat} {cs : List Value} {xs : List (DataW H × List MemPlace)}, cs.length = sz → xs.length = fs.length →
    (∀ (i : Nat) (f : Field), fs[i]? = some f → DataW.trod enc P W 0 (fun _ => true) true fuel f.type ((cs.drop f.offset).take (P.cellsOf f.type)) = xs[i]?) → ∃ b, R W (cs.drop o) b ∧ bulk b ≤ Rows.uptoBulkAll (xs.map (·.1))
def RNil : CellR Unit := fun _ cs _ => cs = []
theorem OpensFs.nil {P : Program} {sz : Nat} : OpensFs P sz [] sz RNil (fun _ => 0) := by
  refine ⟨fun {H enc W fuel cs xs} h1 h2 h3 => ?_⟩
  refine ⟨(), ?_, Nat.zero_le _⟩
  show cs.drop sz = []
  rw [List.drop_eq_nil_iff]; omega
theorem OpensFs.cons {P : Program} {o s sz : Nat} {f : Field} {fs : List Field} {α β : Type} {R : CellR α} {S : CellR β} {b0 : α → Nat} {b1 : β → Nat} (ho : f.offset = o) (hc : P.cellsOf f.type = s) (h0 : Opens P f.type R b0) (h1 : OpensFs P (o + s) fs sz S b1) :
    OpensFs P o (f :: fs) sz (RPair s R S) (fun x => b0 x.1 + b1 x.2) := by
  refine ⟨fun {H enc W fuel cs xs} hl hx h => ?_⟩
  match xs, hx with
  | x :: xs, hx =>
    have e0 := h 0 f rfl
    rw [ho, hc] at e0
    obtain ⟨a, g0, g1⟩ := h0.out e0
    obtain ⟨b, g2, g3⟩ := h1.out hl (by simpa using hx) (fun i f' hf => by simpa using h (i + 1) f' (by simpa using hf))
    refine ⟨(a, b), ⟨g0, by rw [List.drop_drop]; exact g2⟩, ?_⟩
    simp only [List.map_cons, Rows.uptoBulkAll]
    omega
theorem Opens.struct {P : Program} {t : TypeId} {fs : List Field} {sz : Nat} {β : Type} {R : CellR β} {bulk : β → Nat} (ht : P.underlying t = some (.struct ⟨fs⟩)) (ct : P.cellsOf t = sz) (h : OpensFs P 0 fs sz R bulk) : Opens P t R (fun x => bulk x + 1) := by
  refine ⟨fun {H enc W fuel cs x} hx => ?_⟩
  obtain ⟨xs, n, -, rfl, hl, hxl, hx⟩ := DataW.trod_struct ht hx
  obtain ⟨b, g0, g1⟩ := h.out (by rw [hl, ct]) (by simpa using hxl) (fun i f hf => hx i f (by simpa using hf))
  refine ⟨b, by simpa using g0, ?_⟩
  simp only [Rows.uptoBulk]; omega
theorem RSl.inv {β : Type} {sz : Nat} {R : CellR β} {W : World} {v : Value} {xs : List β} (h : RSl sz R W [v] xs) : ∃ (a : Option Addr) (cap : Nat), v = .slice a xs.length cap ∧ xs.length ≤ cap ∧ cap ≤ maxLen ∧ RSl sz R W [.slice a xs.length cap] xs := by
  obtain ⟨a, cap, h1, h2, h3, h4⟩ := h.ex
  refine ⟨a, cap, by simpa using h1, h2, h3, ⟨a, cap, rfl, h2, h3, h4⟩⟩
theorem RSl.get {β : Type} {R : CellR β} {W : World} {a : Option Addr} {n cap : Nat} {xs : List β} (h : RSl 1 R W [.slice a n cap] xs) {j : Nat} (hj : j < xs.length) : ∃ b off v, a = some ⟨b, off, none⟩ ∧ W.cell? ⟨b, off + j, none⟩ = some v ∧ R W [v] xs[j] := by
  obtain ⟨a', cap', h1, -, -, h4⟩ := h.ex
  obtain ⟨b, off, cs, h5, h6, h7, h8⟩ := h4 j hj
  have : a = a' := by simpa using (List.cons.inj h1).1 |> fun h => (Value.slice.inj h).1
  subst this
  match cs, h6 with
  | [v], _ => exact ⟨b, off, v, h5, by simpa using h7 0 v rfl, h8⟩
theorem RSl.strs {W : World} {a : Option Addr} {n cap : Nat} {xs : List Bytes} (h : RSl 1 RStr W [.slice a n cap] xs) : Arr W [] a (xs.map Str) := by
  intro j x hj
  have hjl : j < xs.length := by have := (List.getElem?_eq_some_iff.1 hj).1; simpa using this
  obtain ⟨b, off, v, h1, h2, h3, -⟩ := h.get hjl
  refine ⟨b, off, h1, by simp, ?_⟩
  have : x = v := by
    rw [List.getElem?_map, List.getElem?_eq_getElem hjl] at hj
    simp at hj h3; rw [h3, ← hj]
  rw [this]; exact h2

theorem Trod.out {H : Type} {enc : TypeId × Value → H} {P : Program} {W : World} {t : TypeId} {v : Value} {d : DataW H} {p : List MemPlace} (hd : DataW.Trod enc P W 0 (fun _ => true) true t v d p) {β : Type} {R : CellR β} {bulk : β → Nat} (h : Opens P t R bulk) :
    ∃ b, R W v.cells.toList b ∧ bulk b ≤ Rows.uptoBulk d := by
  obtain ⟨fuel, hf⟩ := hd
  exact h.out hf
theorem bulk_SS (bss : List (List Bytes)) : ((bss.map fun ps => (ps.map fun s => s.length + 1).sum + 1).sum + 1) = sumLen bss.flatten + bss.flatten.length + bss.length + 1 := by
  have key : ∀ ps : List Bytes, (ps.map fun s => s.length + 1).sum = sumLen ps + ps.length := by
    intro ps
    induction ps with
    | nil => rfl
    | cons s r ih => simp only [sumLen, List.map_cons, List.sum_cons, List.length_cons] at ih ⊢; omega
  induction bss with
  | nil => rfl
  | cons ps r ih =>
    simp only [List.map_cons, List.sum_cons, List.flatten_cons, List.length_cons, List.length_append, key] at ih ⊢
    have : sumLen (ps ++ r.flatten) = sumLen ps + sumLen r.flatten := by simp [sumLen]
    omega
end Go.Proofs.YthpmmfapolcaiaaGreatDoor

/- Slices that are handed in: their structs, loaded. -/
namespace Go.Proofs.YthpmmfapolcaiaaGreatDoor
open Go Go.Eng Go.Proofs
/-- The j-th struct of a slice that was handed in. -/
theorem RSl.at {β : Type} {sz : Nat} {R : CellR β} {W : World} {a : Option Addr} {n cap : Nat} {xs : List β} (h : RSl sz R W [.slice a n cap] xs) {j : Nat} (hj : j < xs.length) :
    ∃ b off cs, a = some ⟨b, off, none⟩ ∧ cs.length = sz ∧ (∀ i v, cs[i]? = some v → W.cell? ⟨b, off + (j * sz + i), none⟩ = some v) ∧ R W cs xs[j] := by
  obtain ⟨a', cap', h1, -, -, h4⟩ := h.ex
  have : a = a' := by simpa using (List.cons.inj h1).1 |> fun h => (Value.slice.inj h).1
  subst this
  exact h4 j hj
/-- What was handed in stays. -/
theorem RSl.keep {β : Type} {sz : Nat} {R : CellR β} {w0 w : World} {H : Heap} (hS : St w0 [] H w) (hR : ∀ cs x, R w0 cs x → R w cs x) {cs : List Value} {xs : List β} (h : RSl sz R w0 cs xs) : RSl sz R w cs xs := by
  obtain ⟨a, cap, h1, h2, h3, h4⟩ := h.ex
  refine ⟨a, cap, h1, h2, h3, fun j hj => ?_⟩
  obtain ⟨b, off, cs', h5, h6, h7, h8⟩ := h4 j hj
  exact ⟨b, off, cs', h5, h6, fun i v hv => hS.oldCell (by simp) (h7 i v hv), hR _ _ h8⟩
/-- The j-th struct of a slice that was handed in, loaded. -/
theorem RSl.ldn {β : Type} {sz : Nat} {R : CellR β} {w0 w : World} {H : Heap} (hS : St w0 [] H w) {a : Option Addr} {n cap : Nat} {xs : List β} (h : RSl sz R w0 [.slice a n cap] xs) {j : Nat} (hj : j < xs.length) :
    ∃ b off cs, a = some ⟨b, off, none⟩ ∧ R w0 cs xs[j] ∧ ∀ K : List Value → Prop, K cs → LdN (fun w' => w = w') sz b (off + j * sz) K := by
  obtain ⟨b, off, cs, h1, h2, h3, h4⟩ := h.at hj
  refine ⟨b, off, cs, h1, h4, fun K hK => ⟨⟨cs, h2, fun _ e i v hv => ?_, hK⟩⟩⟩
  subst e
  have := hS.oldCell (by simp) (h3 i v hv)
  rw [← Nat.add_assoc] at this
  exact this
/-- The j-th struct of a slice that was handed in, loaded in any world of a class. -/
theorem RSl.ldnC {β : Type} {sz : Nat} {R : CellR β} {w0 : World} {a : Option Addr} {n cap : Nat} {xs : List β} (h : RSl sz R w0 [.slice a n cap] xs) {j : Nat} (hj : j < xs.length) :
    ∃ b off cs, a = some ⟨b, off, none⟩ ∧ R w0 cs xs[j] ∧ ∀ K : List Value → Prop, K cs → LdN (fun w' => St w0 [] [] w') sz b (off + j * sz) K := by
  obtain ⟨b, off, cs, h1, h2, h3, h4⟩ := h.at hj
  refine ⟨b, off, cs, h1, h4, fun K hK => ⟨⟨cs, h2, fun _ e i v hv => ?_, hK⟩⟩⟩
  have := e.oldCell (by simp) (h3 i v hv)
  rw [← Nat.add_assoc] at this
  exact this
theorem RSl.mem {β : Type} {sz : Nat} {R : CellR β} {W : World} {v : Value} {xs : List β} (h : RSl sz R W [v] xs) {x : β} (hx : x ∈ xs) : ∃ cs, R W cs x := by
  obtain ⟨a, cap, -, -, -, h4⟩ := h.ex
  obtain ⟨i, hi, rfl⟩ := List.mem_iff_getElem.1 hx
  obtain ⟨b, off, cs, -, -, -, h8⟩ := h4 i hi
  exact ⟨cs, h8⟩
theorem Opens.map {P : Program} {t : TypeId} {β γ : Type} {R : CellR β} {S : CellR γ} {bk : β → Nat} {bk' : γ → Nat} (h : Opens P t R bk) (f : β → γ) (hf : ∀ W cs x, R W cs x → S W cs (f x)) (hb : ∀ x, bk' (f x) ≤ bk x) : Opens P t S bk' := by
  refine ⟨fun {H enc W fuel cs x} hx => ?_⟩
  obtain ⟨b, h1, h2⟩ := h.out hx
  exact ⟨f b, hf _ _ _ h1, Nat.le_trans (hb b) h2⟩
def i64b (n : Int) : Prop := -9223372036854775808 ≤ n ∧ n ≤ 9223372036854775807
theorem wf_i64b {n : Int} (h : (Lit.int .i64 n).wf = true) : i64b n := by
  unfold i64b; simpa [Lit.wf, IntKind.min, IntKind.max, IntKind.signed, IntKind.bits] using h
theorem wf_u8b {n : Int} (h : (Lit.int .u8 n).wf = true) : 0 ≤ n ∧ n ≤ 255 := by
  simpa [Lit.wf, IntKind.min, IntKind.max, IntKind.signed, IntKind.bits] using h
/-- The first cell, and the rest. -/
theorem take1' {cs : List Value} {x : Value} (h : cs.take 1 = [x]) : cs = x :: cs.drop 1 := by
  conv => lhs; rw [← List.take_append_drop 1 cs, h]
  rfl
theorem pair_int {k : IntKind} {β : Type} {S : CellR β} {W : World} {cs : List Value} {x : Int × β} (h : RPair 1 (RInt k) S W cs x) : cs = .int k x.1 :: cs.drop 1 ∧ (Lit.int k x.1).wf = true ∧ S W (cs.drop 1) x.2 :=
  ⟨take1' h.1.1, h.1.2, h.2⟩
theorem pair_bool {β : Type} {S : CellR β} {W : World} {cs : List Value} {x : Bool × β} (h : RPair 1 RBool S W cs x) : cs = .bool x.1 :: cs.drop 1 ∧ S W (cs.drop 1) x.2 :=
  ⟨take1' h.1, h.2⟩
theorem pair_str {β : Type} {S : CellR β} {W : World} {cs : List Value} {x : Bytes × β} (h : RPair 1 RStr S W cs x) : cs = Str x.1 :: cs.drop 1 ∧ S W (cs.drop 1) x.2 :=
  ⟨take1' h.1.1, h.2⟩
theorem pair_sl {α β : Type} {sz : Nat} {R : CellR α} {S : CellR β} {W : World} {cs : List Value} {x : List α × β} (h : RPair 1 (RSl sz R) S W cs x) : ∃ v, cs = v :: cs.drop 1 ∧ RSl sz R W [v] x.1 ∧ S W (cs.drop 1) x.2 := by
  obtain ⟨a, cap, h1, -⟩ := h.1.ex
  refine ⟨_, take1' h1, ?_, h.2⟩
  rw [← h1]; exact h.1
end Go.Proofs.YthpmmfapolcaiaaGreatDoor

/- A state of the engine, as plain data: its parts in memory, its records. -/
namespace Go.Proofs.YthpmmfapolcaiaaGreatDoor
open Go Go.Eng Go.Proofs

structure RowM where
  num : Int
  cab : Int
  zone : Int
  exit : Bool
  seats : Bytes
structure EquipM where
  id : Int
  rows : List RowM
structure FlightM where
  id : Int
  equip : Int
  phase : Int
  seq : Int
  l0 : Int
  l1 : Int
  l2 : Int
  l3 : Int
structure PaxM where
  id : Int
  flight : Int
  cab : Int
  fit : Bool
  infant : Bool
  vol : Bool
  stb : Bool
  cls : Int
  status : Int
  tick : Int
  pass : Int
  num : Int
  c : Nat
structure StateM where
  eqs : List EquipM
  fls : List FlightM
  pxs : List PaxM
/-- A list of cells read one by one. -/
theorem pair_one {α β : Type} {R : CellR α} {S : CellR β} {W : World} {cs : List Value} {x : α × β} {v : Value} (h : RPair 1 R S W cs x) (hv : ∀ cs', R W cs' x.1 → cs' = [v]) : cs = v :: cs.drop 1 ∧ S W (cs.drop 1) x.2 :=
  ⟨take1' (hv _ h.1), h.2⟩
def rowC (r : RowM) : List Value := [.int .i64 r.num, .int .i64 r.cab, .int .i64 r.zone, .bool r.exit, Str r.seats]
structure RowM.ok (r : RowM) : Prop where
  num : i64b r.num
  cab : i64b r.cab
  zone : i64b r.zone
def RRow : CellR RowM := fun _ cs r => cs = rowC r ∧ r.ok
def flC (f : FlightM) : List Value := [.int .i64 f.id, .int .i64 f.equip, .int .i64 f.phase, .int .i64 f.seq, .int .i64 f.l0, .int .i64 f.l1, .int .i64 f.l2, .int .i64 f.l3]
structure FlightM.ok (f : FlightM) : Prop where
  id : i64b f.id
  equip : i64b f.equip
  phase : i64b f.phase
  seq : i64b f.seq
  l0 : i64b f.l0
  l1 : i64b f.l1
  l2 : i64b f.l2
  l3 : i64b f.l3
def RFlight : CellR FlightM := fun _ cs f => cs = flC f ∧ f.ok
def paxC (p : PaxM) : List Value := [.int .i64 p.id, .int .i64 p.flight, .int .i64 p.cab, .bool p.fit, .bool p.infant, .bool p.vol, .bool p.stb, .int .i64 p.cls, .int .i64 p.status, .int .i64 p.tick, .int .i64 p.pass, .int .i64 p.num, .int .u8 p.c]
structure PaxM.ok (p : PaxM) : Prop where
  id : i64b p.id
  flight : i64b p.flight
  cab : i64b p.cab
  cls : i64b p.cls
  status : i64b p.status
  tick : i64b p.tick
  pass : i64b p.pass
  num : i64b p.num
  c : p.c < 256
def RPax : CellR PaxM := fun _ cs p => cs = paxC p ∧ p.ok
def REquip : CellR EquipM := fun W cs e => ∃ v, cs = [.int .i64 e.id, v] ∧ i64b e.id ∧ RSl 5 RRow W [v] e.rows
def RState : CellR StateM := fun W cs s => ∃ u v x, cs = [u, v, x] ∧ RSl 2 REquip W [u] s.eqs ∧ RSl 8 RFlight W [v] s.fls ∧ RSl 13 RPax W [x] s.pxs
end Go.Proofs.YthpmmfapolcaiaaGreatDoor

/- Plain: the bytes of rows, flights, passengers. -/
namespace Go.Proofs.YthpmmfapolcaiaaGreatDoor
open Go Go.Eng Go.Proofs

/-- Marks as one number. -/
def marksN : List Bool → Nat
  | [] => 0
  | b :: l => (if b then 1 else 0) + 2 * marksN l
theorem marksN_lt : ∀ l, marksN l < 2 ^ l.length
  | [] => by simp [marksN]
  | b :: l => by
    have := marksN_lt l
    rw [marksN, List.length_cons, Nat.pow_succ]
    split <;> omega
theorem marksN_snoc : ∀ (l : List Bool) (b : Bool), marksN (l ++ [b]) = marksN l + (if b then 2 ^ l.length else 0)
  | [], b => by simp [marksN]
  | c :: l, b => by
    rw [List.cons_append, marksN, marksN_snoc l b, marksN, List.length_cons, Nat.pow_succ]
    split <;> split <;> omega
def rowB (r : RowM) : Bytes := intsB [r.num, r.cab, r.zone] ++ (numB (marksN [r.exit]) ++ textsB [r.seats])
def rowsBt (rs : List RowM) : Bytes := (rs.map rowB).flatten
def equipB (e : EquipM) : Bytes := numB e.rows.length ++ rowsBt e.rows
theorem i64ok_of {n : Int} (h : i64b n) : i64ok n := h
theorem rowB_len (r : RowM) (h : r.ok) (hs : r.seats.length ≤ 1048576) : (rowB r).length ≤ 50 + r.seats.length := by
  have h1 := ints_len [r.num, r.cab, r.zone] (by
    intro z hz
    simp only [List.mem_cons, List.mem_nil_iff, or_false] at hz
    rcases hz with rfl | rfl | rfl
    · exact h.num
    · exact h.cab
    · exact h.zone)
  have h2 := texts_len [r.seats] (by simp [sumLen]; omega)
  have h3 := marksN_lt [r.exit]
  have h4 := numB_len10 (marksN [r.exit]) (by have h3' : marksN [r.exit] < 2 := h3; omega)
  have h5 : sumLen [r.seats] = r.seats.length := by simp [sumLen]
  simp only [List.length_cons, List.length_nil] at h1 h2
  unfold rowB
  simp only [List.length_append]; omega
def rowsW (rs : List RowM) : Nat := (rs.map fun r => r.seats.length + 6).sum
theorem rowsW_at (rs : List RowM) (k : Nat) (hk : k < rs.length) : rs[k].seats.length + 6 ≤ rowsW rs := by
  induction rs generalizing k with
  | nil => simp at hk
  | cons r rs ih =>
    unfold rowsW at *
    rw [List.map_cons, List.sum_cons]
    cases k with
    | zero => simp
    | succ k => have := ih k (by simpa using hk); rw [List.getElem_cons_succ]; omega
theorem rowsW_len (rs : List RowM) : 6 * rs.length ≤ rowsW rs := by
  induction rs with
  | nil => simp
  | cons r rs ih => unfold rowsW at *; rw [List.map_cons, List.sum_cons, List.length_cons]; omega
theorem rowsBt_len (rs : List RowM) (h : ∀ r ∈ rs, r.ok) (hw : rowsW rs ≤ 1048576) : (rowsBt rs).length ≤ 50 * rowsW rs := by
  induction rs with
  | nil => simp [rowsBt]
  | cons r rs ih =>
    have h1 : rowsW (r :: rs) = r.seats.length + 6 + rowsW rs := by simp [rowsW]
    have h2 := rowB_len r (h r List.mem_cons_self) (by omega)
    have h3 := ih (fun q hq => h q (List.mem_cons_of_mem _ hq)) (by omega)
    simp only [rowsBt, List.map_cons, List.flatten_cons, List.length_append] at h3 ⊢
    omega
theorem rowsBt_succ (rs : List RowM) (k : Nat) (hk : k < rs.length) : rowsBt (rs.take (k + 1)) = rowsBt (rs.take k) ++ rowB rs[k] := by
  unfold rowsBt
  rw [List.take_succ_eq_append_getElem hk, List.map_append, List.flatten_append]; simp
theorem rowsW_take (rs : List RowM) (k : Nat) : rowsW (rs.take k) ≤ rowsW rs := by
  have h := congrArg (fun l => (l.map fun r : RowM => r.seats.length + 6).sum) (List.take_append_drop k rs)
  simp only [List.map_append, List.sum_append] at h
  unfold rowsW; omega
def flightB (f : FlightM) : Bytes := intsB [f.equip, f.phase, f.seq] ++ intsB [f.l0, f.l1, f.l2, f.l3]
def seatB (num : Int) (c : Nat) : Bytes := if num = 0 ∧ c = 0 then [] else labelB num c
def paxB (p : PaxM) : Bytes := intsB [p.flight, p.cab, p.cls, p.status, p.tick, p.pass] ++ numB (marksN [p.fit, p.infant, p.vol, p.stb]) ++ textB (seatB p.num p.c)
theorem seatB_len (n : Int) (c : Nat) : (seatB n c).length ≤ 3 := by
  unfold seatB; split
  · simp
  · exact (labelB_len n c).2
theorem FlightM.ok.limits {f : FlightM} (hf : f.ok) : ∀ z ∈ [f.l0, f.l1, f.l2, f.l3], i64ok z := by
  intro z hz
  simp only [List.mem_cons, List.mem_nil_iff, or_false] at hz
  rcases hz with rfl | rfl | rfl | rfl
  · exact hf.l0
  · exact hf.l1
  · exact hf.l2
  · exact hf.l3
theorem FlightM.ok.head {f : FlightM} (hf : f.ok) : ∀ z ∈ [f.equip, f.phase, f.seq], i64ok z := by
  intro z hz
  simp only [List.mem_cons, List.mem_nil_iff, or_false] at hz
  rcases hz with rfl | rfl | rfl
  · exact hf.equip
  · exact hf.phase
  · exact hf.seq
theorem PaxM.ok.head {p : PaxM} (h : p.ok) : ∀ z ∈ [p.flight, p.cab, p.cls, p.status, p.tick, p.pass], i64ok z := by
  intro z hz
  simp only [List.mem_cons, List.mem_nil_iff, or_false] at hz
  rcases hz with rfl | rfl | rfl | rfl | rfl | rfl
  · exact h.flight
  · exact h.cab
  · exact h.cls
  · exact h.status
  · exact h.tick
  · exact h.pass
theorem marks4_lt (a b c d : Bool) : marksN [a, b, c, d] < 16 := marksN_lt [a, b, c, d]
end Go.Proofs.YthpmmfapolcaiaaGreatDoor

/- Plain: the bytes of commands and replies, how they are read, and that nothing else is read. -/
namespace Go.Proofs.YthpmmfapolcaiaaGreatDoor
open Go Go.Eng Go.Proofs

instance : DecidableEq RowM := fun a b =>
  if h : a.num = b.num ∧ a.cab = b.cab ∧ a.zone = b.zone ∧ a.exit = b.exit ∧ a.seats = b.seats then
    isTrue (by obtain ⟨h1, h2, h3, h4, h5⟩ := h; cases a; cases b; simp only at h1 h2 h3 h4 h5; rw [h1, h2, h3, h4, h5])
  else isFalse (fun e => h (by rw [e]; exact ⟨rfl, rfl, rfl, rfl, rfl⟩))
/-- A step of a reader, and what follows. -/
def tk {α β : Type} (x : α × RB) (f : α → RB → β) : β := f x.1 x.2
def wNum (most : Nat) (s : RB) : Nat × RB := if (numO s.t).2.1 ≠ 0 ∨ most < (numO s.t).1 then (0, ⟨(numO s.t).2.2, true⟩) else ((numO s.t).1, ⟨(numO s.t).2.2, s.bad⟩)
def wInts : Nat → RB → List Int × RB
  | 0, s => ([], s)
  | k + 1, s => ((rbInt s).1 :: (wInts k (rbInt s).2).1, (wInts k (rbInt s).2).2)
def bitsN : Nat → Nat → List Bool
  | 0, _ => []
  | k + 1, n => decide (n % 2 = 1) :: bitsN k (n / 2)
def wMarks (k : Nat) (s : RB) : List Bool × RB := (bitsN k (wNum (2 ^ k - 1) s).1, (wNum (2 ^ k - 1) s).2)
def wText (s : RB) : Bytes × RB := ((textO s.t).1, ⟨(textO s.t).2.2, s.bad || decide ((textO s.t).2.1 ≠ 0)⟩)
def wRow (s : RB) : RowM × RB := tk (wInts 3 s) fun l s => tk (wMarks 1 s) fun m s => tk (wText s) fun x s => (⟨l.getD 0 0, l.getD 1 0, l.getD 2 0, m.getD 0 false, x⟩, s)
def wRows : Nat → RB → List RowM × RB
  | 0, s => ([], s)
  | k + 1, s => ((wRow s).1 :: (wRows k (wRow s).2).1, (wRows k (wRow s).2).2)
/-- What is read well is just what would be written. -/
structure Codec {α : Type} (D : RB → α × RB) (E : α → Bytes) (ok : α → Prop) : Prop where
  good : ∀ s, (D s).2.bad = false → s.bad = false ∧ s.t = E (D s).1 ++ (D s).2.t ∧ ok (D s).1
  app : ∀ a r, ok a → D ⟨E a ++ r, false⟩ = (a, ⟨r, false⟩)
theorem wNum_codec (most : Nat) (hm : most < 18446744073709551616) : Codec (wNum most) numB (fun n => n ≤ most) where
  good s h := by
    unfold wNum at h ⊢
    split at h
    · cases h
    · next hc =>
      rw [if_neg hc]
      obtain ⟨h1, h2⟩ := not_or.1 hc
      exact ⟨h, numO_ok (Decidable.not_not.1 h1), by simp only; omega⟩
  app a r ha := by
    unfold wNum
    simp only [numO_app a r (by omega)]
    rw [if_neg (by rintro (h | h) <;> omega)]
theorem wInts_len : ∀ k s, (wInts k s).1.length = k
  | 0, _ => rfl
  | k + 1, s => by unfold wInts; simp [wInts_len k]
theorem rbInt_ok' (s : RB) : i64ok (rbInt s).1 := by
  have h2 := numO_lt s.t
  unfold rbInt intO
  exact ok_zig (by simp only; rw [zig_unzig]; exact h2)
theorem wInts_ok : ∀ k s, ∀ z ∈ (wInts k s).1, i64ok z
  | 0, _, z, hz => by cases hz
  | k + 1, s, z, hz => by
    rcases List.mem_cons.1 hz with rfl | hz
    · exact rbInt_ok' s
    · exact wInts_ok k _ z hz
theorem wInts_codec : ∀ k, Codec (wInts k) intsB (fun l => l.length = k ∧ ∀ z ∈ l, i64ok z)
  | 0 => ⟨fun s h => ⟨h, rfl, rfl, by nofun⟩, fun a r ha => by obtain rfl := List.eq_nil_of_length_eq_zero ha.1; rfl⟩
  | k + 1 => by
    have ih := wInts_codec k
    refine ⟨fun s h => ?_, fun a r ha => ?_⟩
    · obtain ⟨h1, e1, -⟩ := ih.good _ (show (wInts k (rbInt s).2).2.bad = false from h)
      obtain ⟨h2, e2, -⟩ := rbInt_good h1
      refine ⟨h2, ?_, wInts_len (k + 1) s, wInts_ok (k + 1) s⟩
      unfold wInts
      simp only [intsB, List.map_cons, List.flatten_cons, List.append_assoc]
      rw [e2]
      congr 1
    · match a, ha with
      | z :: a, ha =>
        have e : intsB (z :: a) ++ r = intB z ++ (intsB a ++ r) := by simp [intsB]
        rw [e]
        unfold wInts
        rw [rbInt_app _ _ (ha.2 z List.mem_cons_self)]
        simp only
        rw [ih.app a r ⟨by simpa using ha.1, fun y hy => ha.2 y (List.mem_cons_of_mem _ hy)⟩]
theorem bitsN_len : ∀ k n, (bitsN k n).length = k
  | 0, _ => rfl
  | k + 1, n => by unfold bitsN; simp [bitsN_len k]
theorem marks_bits : ∀ k n, n < 2 ^ k → marksN (bitsN k n) = n
  | 0, n, h => by simp at h; simp [bitsN, marksN, h]
  | k + 1, n, h => by
    rw [Nat.pow_succ] at h
    unfold bitsN marksN
    rw [marks_bits k (n / 2) (by omega)]
    by_cases h2 : n % 2 = 1
    · rw [decide_eq_true h2, if_pos rfl]; omega
    · rw [decide_eq_false h2, if_neg (by nofun)]; omega
theorem bits_marksN : ∀ l : List Bool, bitsN l.length (marksN l) = l
  | [] => rfl
  | b :: l => by
    rw [List.length_cons]
    unfold bitsN
    have e1 : marksN (b :: l) % 2 = if b then 1 else 0 := by rw [marksN]; split <;> omega
    have e2 : marksN (b :: l) / 2 = marksN l := by rw [marksN]; split <;> omega
    rw [e1, e2, bits_marksN l]
    cases b <;> rfl
theorem wMarks_codec (k : Nat) (hk : k ≤ 8) : Codec (wMarks k) (fun l => numB (marksN l)) (fun l => l.length = k) := by
  have hp : 2 ^ k ≤ 2 ^ 8 := Nat.pow_le_pow_right (by omega) hk
  have hp0 : 0 < 2 ^ k := Nat.two_pow_pos k
  have ih := wNum_codec (2 ^ k - 1) (by omega)
  refine ⟨fun s h => ?_, fun a r ha => ?_⟩
  · obtain ⟨h1, e1, o1⟩ := ih.good s h
    refine ⟨h1, ?_, bitsN_len _ _⟩
    show s.t = numB (marksN (bitsN k _)) ++ _
    rw [marks_bits k _ (by omega)]; exact e1
  · have hl := marksN_lt a
    rw [ha] at hl
    unfold wMarks
    rw [ih.app _ r (by omega)]
    simp only [← ha]
    rw [bits_marksN]
theorem textO_ok {t : Bytes} (h : (textO t).2.1 = 0) : t = textB (textO t).1 ++ (textO t).2.2 ∧ (textO t).1.length < 18446744073709551616 := by
  unfold textO at h ⊢
  cases e : textR t with
  | none => rw [e] at h; cases h
  | some x => obtain ⟨m, r⟩ := x; exact (textR_iff t m r).1 e
theorem textO_app (s r : Bytes) (h : s.length < 18446744073709551616) : textO (textB s ++ r) = (s, 0, r) := by
  unfold textO; rw [(textR_iff _ s r).2 ⟨rfl, h⟩]
theorem wText_codec : Codec wText textB (fun x => x.length < 18446744073709551616) where
  good s h := by
    unfold wText at h ⊢
    simp only [Bool.or_eq_false_iff, decide_eq_false_iff_not, Decidable.not_not] at h
    exact ⟨h.1, textO_ok h.2⟩
  app a r ha := by
    unfold wText; simp only [textO_app a r ha]; rfl
theorem lst1 {α : Type} {l : List α} (d : α) (h : l.length = 1) : l = [l.getD 0 d] := by
  match l, h with
  | [a], _ => rfl
theorem lst2 {α : Type} {l : List α} (d : α) (h : l.length = 2) : l = [l.getD 0 d, l.getD 1 d] := by
  match l, h with
  | [a, b], _ => rfl
theorem lst3 {α : Type} {l : List α} (d : α) (h : l.length = 3) : l = [l.getD 0 d, l.getD 1 d, l.getD 2 d] := by
  match l, h with
  | [a, b, c], _ => rfl
theorem lst4 {α : Type} {l : List α} (d : α) (h : l.length = 4) : l = [l.getD 0 d, l.getD 1 d, l.getD 2 d, l.getD 3 d] := by
  match l, h with
  | [a, b, c, e], _ => rfl
theorem lst6 {α : Type} {l : List α} (d : α) (h : l.length = 6) : l = [l.getD 0 d, l.getD 1 d, l.getD 2 d, l.getD 3 d, l.getD 4 d, l.getD 5 d] := by
  match l, h with
  | [a, b, c, e, f, g], _ => rfl
theorem lst7 {α : Type} {l : List α} (d : α) (h : l.length = 7) : l = [l.getD 0 d, l.getD 1 d, l.getD 2 d, l.getD 3 d, l.getD 4 d, l.getD 5 d, l.getD 6 d] := by
  match l, h with
  | [a, b, c, e, f, g, i], _ => rfl
theorem getD_ok {l : List Int} (h : ∀ z ∈ l, i64ok z) (i : Nat) : i64ok (l.getD i 0) := by
  rw [List.getD_eq_getElem?_getD]
  cases e : l[i]? with
  | none => exact ⟨by decide, by decide⟩
  | some z => exact h z (List.mem_of_getElem? e)
theorem wRow_codec : Codec wRow rowB (fun r => r.ok ∧ r.seats.length < 18446744073709551616) where
  good s h := by
    unfold wRow tk at h ⊢
    simp only at h ⊢
    obtain ⟨h3, e3, o3⟩ := wText_codec.good _ h
    obtain ⟨h2, e2, o2⟩ := (wMarks_codec 1 (by omega)).good _ h3
    obtain ⟨h1, e1, o1⟩ := (wInts_codec 3).good _ h2
    refine ⟨h1, ?_, ⟨getD_ok o1.2 0, getD_ok o1.2 1, getD_ok o1.2 2⟩, o3⟩
    unfold rowB
    simp only
    rw [← lst3 0 o1.1, ← lst1 false o2, e1, e2]
    conv => lhs; rw [e3]
    simp [textsB]
  app a r ha := by
    have e : rowB a ++ r = intsB [a.num, a.cab, a.zone] ++ (numB (marksN [a.exit]) ++ (textB a.seats ++ r)) := by simp [rowB, textsB]
    rw [e]
    unfold wRow tk
    rw [(wInts_codec 3).app _ _ ⟨rfl, by
      intro z hz
      simp only [List.mem_cons, List.mem_nil_iff, or_false] at hz
      rcases hz with rfl | rfl | rfl
      · exact ha.1.num
      · exact ha.1.cab
      · exact ha.1.zone⟩]
    simp only
    rw [(wMarks_codec 1 (by omega)).app _ _ rfl]
    simp only
    rw [wText_codec.app _ _ ha.2]
    rfl
theorem wRows_len : ∀ k s, (wRows k s).1.length = k
  | 0, _ => rfl
  | k + 1, s => by unfold wRows; simp [wRows_len k]
theorem wRows_codec : ∀ k, Codec (wRows k) rowsBt (fun l => l.length = k ∧ ∀ r ∈ l, r.ok ∧ r.seats.length < 18446744073709551616)
  | 0 => ⟨fun s h => ⟨h, rfl, rfl, by nofun⟩, fun a r ha => by obtain rfl := List.eq_nil_of_length_eq_zero ha.1; rfl⟩
  | k + 1 => by
    have ih := wRows_codec k
    refine ⟨fun s h => ?_, fun a r ha => ?_⟩
    · obtain ⟨h1, e1, o1⟩ := ih.good _ (show (wRows k (wRow s).2).2.bad = false from h)
      obtain ⟨h2, e2, o2⟩ := wRow_codec.good _ h1
      refine ⟨h2, ?_, wRows_len (k + 1) s, ?_⟩
      · unfold wRows
        simp only [rowsBt, List.map_cons, List.flatten_cons, List.append_assoc] at e1 ⊢
        rw [← e1]; exact e2
      · intro q hq
        rcases List.mem_cons.1 hq with rfl | hq
        · exact o2
        · exact o1.2 q hq
    · match a, ha with
      | z :: a, ha =>
        have e : rowsBt (z :: a) ++ r = rowB z ++ (rowsBt a ++ r) := by simp [rowsBt]
        rw [e]
        unfold wRows
        rw [wRow_codec.app _ _ (ha.2 z List.mem_cons_self)]
        simp only
        rw [ih.app a r ⟨by simpa using ha.1, fun y hy => ha.2 y (List.mem_cons_of_mem _ hy)⟩]
theorem rowsBt_min (rs : List RowM) : rs.length ≤ (rowsBt rs).length := by
  induction rs with
  | nil => exact Nat.zero_le _
  | cons r rs ih =>
    have h := numB_pos (marksN [r.exit])
    unfold rowsBt at ih ⊢
    unfold rowB at ih ⊢
    simp only [List.map_cons, List.flatten_cons, List.length_append, List.length_cons] at ih ⊢
    omega
structure CmdM where
  kind : Int
  req : Int
  id : Int
  fl : Int
  eq : Int
  cls : Int
  wcab : Int
  fit : Bool
  inf : Bool
  vol : Bool
  stb : Bool
  num : Int
  lt : Nat
  rows : List RowM
  l0 : Int
  l1 : Int
  l2 : Int
  l3 : Int
  text : Bytes
theorem CmdM.ext' {a b : CmdM} (h0 : a.kind = b.kind) (h1 : a.req = b.req) (h2 : a.id = b.id) (h3 : a.fl = b.fl) (h4 : a.eq = b.eq) (h5 : a.cls = b.cls) (h6 : a.wcab = b.wcab) (h7 : a.fit = b.fit) (h8 : a.inf = b.inf) (h9 : a.vol = b.vol) (h10 : a.stb = b.stb) (h11 : a.num = b.num) (h12 : a.lt = b.lt) (h13 : a.rows = b.rows) (h14 : a.l0 = b.l0) (h15 : a.l1 = b.l1) (h16 : a.l2 = b.l2) (h17 : a.l3 = b.l3) (h18 : a.text = b.text) : a = b := by
  cases a; cases b; simp only at h0 h1 h2 h3 h4 h5 h6 h7 h8 h9 h10 h11 h12 h13 h14 h15 h16 h17 h18; rw [h0, h1, h2, h3, h4, h5, h6, h7, h8, h9, h10, h11, h12, h13, h14, h15, h16, h17, h18]
instance : DecidableEq CmdM := fun a b =>
  if h : a.kind = b.kind ∧ a.req = b.req ∧ a.id = b.id ∧ a.fl = b.fl ∧ a.eq = b.eq ∧ a.cls = b.cls ∧ a.wcab = b.wcab ∧ a.fit = b.fit ∧ a.inf = b.inf ∧ a.vol = b.vol ∧ a.stb = b.stb ∧ a.num = b.num ∧ a.lt = b.lt ∧ a.rows = b.rows ∧ a.l0 = b.l0 ∧ a.l1 = b.l1 ∧ a.l2 = b.l2 ∧ a.l3 = b.l3 ∧ a.text = b.text then
    isTrue (by obtain ⟨h0, h1, h2, h3, h4, h5, h6, h7, h8, h9, h10, h11, h12, h13, h14, h15, h16, h17, h18⟩ := h; exact CmdM.ext' h0 h1 h2 h3 h4 h5 h6 h7 h8 h9 h10 h11 h12 h13 h14 h15 h16 h17 h18)
  else isFalse (fun e => h (by rw [e]; exact ⟨rfl, rfl, rfl, rfl, rfl, rfl, rfl, rfl, rfl, rfl, rfl, rfl, rfl, rfl, rfl, rfl, rfl, rfl, rfl⟩))
structure CmdM.ok (c : CmdM) : Prop where
  kind : i64ok c.kind
  req : i64ok c.req
  id : i64ok c.id
  fl : i64ok c.fl
  eq : i64ok c.eq
  cls : i64ok c.cls
  wcab : i64ok c.wcab
  num : i64ok c.num
  lt : c.lt < 256
  rows : ∀ r ∈ c.rows, r.ok
  l0 : i64ok c.l0
  l1 : i64ok c.l1
  l2 : i64ok c.l2
  l3 : i64ok c.l3
/-- The kinds, by what they have bytes for. -/
inductive CK where
  | equip | flight | book | seat | swap | fl | board | id
def ckOf (k : Int) : CK := if k = 1 then .equip else if k = 2 then .flight else if k = 3 then .book else if k = 6 then .seat else if k = 8 then .swap else if k = 9 ∨ k = 10 ∨ k = 13 ∨ k = 14 then .fl else if k = 12 then .board else .id
abbrev hdC (k q : Int) : CmdM := ⟨k, q, 0, 0, 0, 0, 0, false, false, false, false, 0, 0, [], 0, 0, 0, 0, []⟩
def bareF : CK → CmdM → CmdM
  | .equip, c => { hdC c.kind c.req with id := c.id, rows := c.rows }
  | .flight, c => { hdC c.kind c.req with id := c.id, eq := c.eq, l0 := c.l0, l1 := c.l1, l2 := c.l2, l3 := c.l3 }
  | .book, c => { hdC c.kind c.req with id := c.id, fl := c.fl, cls := c.cls, wcab := c.wcab, fit := c.fit, inf := c.inf, vol := c.vol, stb := c.stb }
  | .seat, c => { hdC c.kind c.req with id := c.id, num := c.num, lt := c.lt }
  | .swap, c => { hdC c.kind c.req with fl := c.fl, eq := c.eq }
  | .fl, c => { hdC c.kind c.req with fl := c.fl }
  | .board, c => { hdC c.kind c.req with text := c.text }
  | .id, c => { hdC c.kind c.req with id := c.id }
def fieldsB : CK → CmdM → Bytes
  | .equip, c => intsB [c.id] ++ (numB c.rows.length ++ rowsBt c.rows)
  | .flight, c => intsB [c.id, c.eq] ++ intsB [c.l0, c.l1, c.l2, c.l3]
  | .book, c => intsB [c.id, c.fl, c.wcab, c.cls] ++ numB (marksN [c.fit, c.inf, c.vol, c.stb])
  | .seat, c => intsB [c.id, c.num] ++ numB c.lt
  | .swap, c => intsB [c.fl, c.eq]
  | .fl, c => intsB [c.fl]
  | .board, c => textB c.text
  | .id, c => intsB [c.id]
def wField : CK → Int → Int → RB → CmdM × RB
  | .equip, k, q, s => tk (wInts 1 s) fun l s => tk (wNum s.t.length s) fun n s => tk (wRows n s) fun r s => ({ hdC k q with id := l.getD 0 0, rows := r }, s)
  | .flight, k, q, s => tk (wInts 2 s) fun l s => tk (wInts 4 s) fun x s => ({ hdC k q with id := l.getD 0 0, eq := l.getD 1 0, l0 := x.getD 0 0, l1 := x.getD 1 0, l2 := x.getD 2 0, l3 := x.getD 3 0 }, s)
  | .book, k, q, s => tk (wInts 4 s) fun l s => tk (wMarks 4 s) fun m s => ({ hdC k q with id := l.getD 0 0, fl := l.getD 1 0, wcab := l.getD 2 0, cls := l.getD 3 0, fit := m.getD 0 false, inf := m.getD 1 false, vol := m.getD 2 false, stb := m.getD 3 false }, s)
  | .seat, k, q, s => tk (wInts 2 s) fun l s => tk (wNum 255 s) fun n s => ({ hdC k q with id := l.getD 0 0, num := l.getD 1 0, lt := n }, s)
  | .swap, k, q, s => tk (wInts 2 s) fun l s => ({ hdC k q with fl := l.getD 0 0, eq := l.getD 1 0 }, s)
  | .fl, k, q, s => tk (wInts 1 s) fun l s => ({ hdC k q with fl := l.getD 0 0 }, s)
  | .board, k, q, s => tk (wText s) fun x s => ({ hdC k q with text := x }, s)
  | .id, k, q, s => tk (wInts 1 s) fun l s => ({ hdC k q with id := l.getD 0 0 }, s)
theorem bare_kind (k : CK) (c : CmdM) : (bareF k c).kind = c.kind := by cases k <;> rfl
theorem bare_req (k : CK) (c : CmdM) : (bareF k c).req = c.req := by cases k <;> rfl
theorem bare_bare (k : CK) (c : CmdM) : bareF k (bareF k c) = bareF k c := by cases k <;> rfl
theorem bare_fields (k : CK) (c : CmdM) : fieldsB k (bareF k c) = fieldsB k c := by cases k <;> rfl
theorem ok0 : i64ok 0 := ⟨by decide, by decide⟩
theorem hdC_ok {k q : Int} (hk : i64ok k) (hq : i64ok q) : (hdC k q).ok := ⟨hk, hq, ok0, ok0, ok0, ok0, ok0, ok0, (by decide : 0 < 256), (fun _ h => nomatch h), ok0, ok0, ok0, ok0⟩
theorem bare_ok (k : CK) {c : CmdM} (h : c.ok) : (bareF k c).ok := by
  have h0 := hdC_ok h.kind h.req
  cases k
  · exact { h0 with id := h.id, rows := h.rows }
  · exact { h0 with id := h.id, eq := h.eq, l0 := h.l0, l1 := h.l1, l2 := h.l2, l3 := h.l3 }
  · exact { h0 with id := h.id, fl := h.fl, cls := h.cls, wcab := h.wcab }
  · exact { h0 with id := h.id, num := h.num, lt := h.lt }
  · exact { h0 with fl := h.fl, eq := h.eq }
  · exact { h0 with fl := h.fl }
  · exact { h0 with kind := h.kind }
  · exact { h0 with id := h.id }
/-- What a reading of fields answers. -/
structure FieldR (k : CK) (kd q : Int) (s : RB) (y : CmdM × RB) : Prop where
  bad : s.bad = false
  t : s.t = fieldsB k y.1 ++ y.2.t
  ok : y.1.ok
  bare : bareF k y.1 = y.1
  kind : y.1.kind = kd
  req : y.1.req = q
theorem wField_good {k : CK} {kd q : Int} {s : RB} (hk : i64ok kd) (hq : i64ok q) (hs : s.t.length ≤ 70368744177664) (h : (wField k kd q s).2.bad = false) : FieldR k kd q s (wField k kd q s) := by
  have h0 := hdC_ok hk hq
  cases k
  · have hle : (wInts 1 s).2.t.length ≤ s.t.length := by
      show (intO s.t).2.2.length ≤ _
      exact intO_len s.t
    unfold wField tk at h ⊢
    simp only at h ⊢
    obtain ⟨h3, e3, o3⟩ := (wRows_codec _).good _ h
    obtain ⟨h2, e2, o2⟩ := (wNum_codec _ (by omega)).good _ h3
    obtain ⟨h1, e1, o1⟩ := (wInts_codec 1).good _ h2
    refine ⟨h1, ?_, { h0 with id := getD_ok o1.2 0, rows := fun r hr => (o3.2 r hr).1 }, rfl, rfl, rfl⟩
    simp only [fieldsB]
    rw [← lst1 0 o1.1, o3.1]
    conv => lhs; rw [e1, e2, e3]
    simp
  · unfold wField tk at h ⊢
    simp only at h ⊢
    obtain ⟨h2, e2, o2⟩ := (wInts_codec 4).good _ h
    obtain ⟨h1, e1, o1⟩ := (wInts_codec 2).good _ h2
    refine ⟨h1, ?_, { h0 with id := getD_ok o1.2 0, eq := getD_ok o1.2 1, l0 := getD_ok o2.2 0, l1 := getD_ok o2.2 1, l2 := getD_ok o2.2 2, l3 := getD_ok o2.2 3 }, rfl, rfl, rfl⟩
    simp only [fieldsB]
    rw [← lst2 0 o1.1, ← lst4 0 o2.1]
    conv => lhs; rw [e1, e2]
    simp
  · unfold wField tk at h ⊢
    simp only at h ⊢
    obtain ⟨h2, e2, o2⟩ := (wMarks_codec 4 (by omega)).good _ h
    obtain ⟨h1, e1, o1⟩ := (wInts_codec 4).good _ h2
    refine ⟨h1, ?_, { h0 with id := getD_ok o1.2 0, fl := getD_ok o1.2 1, wcab := getD_ok o1.2 2, cls := getD_ok o1.2 3 }, rfl, rfl, rfl⟩
    simp only [fieldsB]
    rw [← lst4 0 o1.1, ← lst4 false o2]
    conv => lhs; rw [e1, e2]
    simp
  · unfold wField tk at h ⊢
    simp only at h ⊢
    obtain ⟨h2, e2, o2⟩ := (wNum_codec 255 (by omega)).good _ h
    obtain ⟨h1, e1, o1⟩ := (wInts_codec 2).good _ h2
    refine ⟨h1, ?_, { h0 with id := getD_ok o1.2 0, num := getD_ok o1.2 1, lt := (by simp only at o2 ⊢; omega) }, rfl, rfl, rfl⟩
    simp only [fieldsB]
    rw [← lst2 0 o1.1]
    conv => lhs; rw [e1, e2]
    simp
  · unfold wField tk at h ⊢
    simp only at h ⊢
    obtain ⟨h1, e1, o1⟩ := (wInts_codec 2).good _ h
    refine ⟨h1, ?_, { h0 with fl := getD_ok o1.2 0, eq := getD_ok o1.2 1 }, rfl, rfl, rfl⟩
    simp only [fieldsB]
    rw [← lst2 0 o1.1]
    exact e1
  · unfold wField tk at h ⊢
    simp only at h ⊢
    obtain ⟨h1, e1, o1⟩ := (wInts_codec 1).good _ h
    refine ⟨h1, ?_, { h0 with fl := getD_ok o1.2 0 }, rfl, rfl, rfl⟩
    simp only [fieldsB]
    rw [← lst1 0 o1.1]
    exact e1
  · unfold wField tk at h ⊢
    simp only at h ⊢
    obtain ⟨h1, e1, o1⟩ := wText_codec.good _ h
    exact ⟨h1, e1, { h0 with kind := hk }, rfl, rfl, rfl⟩
  · unfold wField tk at h ⊢
    simp only at h ⊢
    obtain ⟨h1, e1, o1⟩ := (wInts_codec 1).good _ h
    refine ⟨h1, ?_, { h0 with id := getD_ok o1.2 0 }, rfl, rfl, rfl⟩
    simp only [fieldsB]
    rw [← lst1 0 o1.1]
    exact e1
theorem all1 {a : Int} (ha : i64ok a) : [a].length = 1 ∧ ∀ z ∈ [a], i64ok z := ⟨rfl, by intro z hz; rw [List.mem_singleton] at hz; rw [hz]; exact ha⟩
theorem all2 {a b : Int} (ha : i64ok a) (hb : i64ok b) : [a, b].length = 2 ∧ ∀ z ∈ [a, b], i64ok z := ⟨rfl, by
  intro z hz
  rcases List.mem_cons.1 hz with rfl | hz
  · exact ha
  · exact (all1 hb).2 z hz⟩
theorem all3 {a b c : Int} (ha : i64ok a) (hb : i64ok b) (hc : i64ok c) : [a, b, c].length = 3 ∧ ∀ z ∈ [a, b, c], i64ok z := ⟨rfl, by
  intro z hz
  rcases List.mem_cons.1 hz with rfl | hz
  · exact ha
  · exact (all2 hb hc).2 z hz⟩
theorem all4 {a b c d : Int} (ha : i64ok a) (hb : i64ok b) (hc : i64ok c) (hd : i64ok d) : [a, b, c, d].length = 4 ∧ ∀ z ∈ [a, b, c, d], i64ok z := ⟨rfl, by
  intro z hz
  rcases List.mem_cons.1 hz with rfl | hz
  · exact ha
  · exact (all3 hb hc hd).2 z hz⟩
theorem wField_app {k : CK} {c : CmdM} (r : Bytes) (hc : c.ok) (hr : ∀ x ∈ c.rows, x.seats.length < 18446744073709551616) (ht : c.text.length < 18446744073709551616) (hl : (fieldsB k c ++ r).length ≤ 70368744177664) : wField k c.kind c.req ⟨fieldsB k c ++ r, false⟩ = (bareF k c, ⟨r, false⟩) := by
  cases k
  · simp only [fieldsB, List.append_assoc] at hl ⊢
    have hm := rowsBt_min c.rows
    simp only [List.length_append] at hl
    unfold wField tk
    simp only
    rw [(wInts_codec 1).app _ _ (all1 hc.id)]
    simp only
    rw [(wNum_codec _ (by simp only [List.length_append]; omega)).app _ _ (by simp only [List.length_append]; omega)]
    simp only
    rw [(wRows_codec _).app _ _ ⟨rfl, fun x hx => ⟨hc.rows x hx, hr x hx⟩⟩]
    rfl
  · simp only [fieldsB, List.append_assoc]
    unfold wField tk
    simp only
    rw [(wInts_codec 2).app _ _ (all2 hc.id hc.eq)]
    simp only
    rw [(wInts_codec 4).app _ _ (all4 hc.l0 hc.l1 hc.l2 hc.l3)]
    rfl
  · simp only [fieldsB, List.append_assoc]
    unfold wField tk
    simp only
    rw [(wInts_codec 4).app _ _ (all4 hc.id hc.fl hc.wcab hc.cls)]
    simp only
    rw [(wMarks_codec 4 (by omega)).app _ _ rfl]
    rfl
  · simp only [fieldsB, List.append_assoc]
    have := hc.lt
    unfold wField tk
    simp only
    rw [(wInts_codec 2).app _ _ (all2 hc.id hc.num)]
    simp only
    rw [(wNum_codec 255 (by omega)).app _ _ (by omega)]
    rfl
  · simp only [fieldsB]
    unfold wField tk
    simp only
    rw [(wInts_codec 2).app _ _ (all2 hc.fl hc.eq)]
    rfl
  · simp only [fieldsB]
    unfold wField tk
    simp only
    rw [(wInts_codec 1).app _ _ (all1 hc.fl)]
    rfl
  · simp only [fieldsB]
    unfold wField tk
    simp only
    rw [wText_codec.app _ _ ht]
    rfl
  · simp only [fieldsB]
    unfold wField tk
    simp only
    rw [(wInts_codec 1).app _ _ (all1 hc.id)]
    rfl
def smallC (c : CmdM) : Bool := decide (c.rows.length ≤ 20) && decide (c.text.length ≤ 200) && c.rows.all fun r => decide (r.seats.length ≤ 40)
def cmdB (c : CmdM) : Bytes := numB c.kind.toNat ++ (intB c.req ++ fieldsB (ckOf c.kind) c)
/-- The command of a payload. -/
def cmdS (t : Bytes) : Option CmdM := tk (wNum 15 ⟨t, false⟩) fun k s => tk (rbInt s) fun q s =>
  if s.bad = true ∨ k = 0 then none else tk (wField (ckOf k) k q s) fun c s => if s.bad = true ∨ s.t ≠ [] ∨ smallC c = false then none else some c
/-- Is the command right? -/
def RightC (c : CmdM) : Prop := 1 ≤ c.kind ∧ c.kind ≤ 15 ∧ smallC c = true ∧ bareF (ckOf c.kind) c = c
instance (c : CmdM) : Decidable (RightC c) := inferInstanceAs (Decidable (_ ∧ _ ∧ _ ∧ _))
theorem small_iff {c : CmdM} : smallC c = true ↔ c.rows.length ≤ 20 ∧ c.text.length ≤ 200 ∧ ∀ r ∈ c.rows, r.seats.length ≤ 40 := by
  unfold smallC
  rw [Bool.and_eq_true, Bool.and_eq_true, decide_eq_true_iff, decide_eq_true_iff, List.all_eq_true, and_assoc]
  simp
theorem small_bare (k : CK) {c : CmdM} (h : smallC c = true) : smallC (bareF k c) = true := by
  obtain ⟨h1, h2, h3⟩ := small_iff.1 h
  refine small_iff.2 ?_
  cases k
  · exact ⟨h1, Nat.zero_le _, h3⟩
  · exact ⟨Nat.zero_le _, Nat.zero_le _, by nofun⟩
  · exact ⟨Nat.zero_le _, Nat.zero_le _, by nofun⟩
  · exact ⟨Nat.zero_le _, Nat.zero_le _, by nofun⟩
  · exact ⟨Nat.zero_le _, Nat.zero_le _, by nofun⟩
  · exact ⟨Nat.zero_le _, Nat.zero_le _, by nofun⟩
  · exact ⟨Nat.zero_le _, h2, by nofun⟩
  · exact ⟨Nat.zero_le _, Nat.zero_le _, by nofun⟩
theorem cmdS_iff {t : Bytes} (ht : t.length ≤ 70368744177664) {c : CmdM} : cmdS t = some c ↔ t = cmdB c ∧ c.ok ∧ RightC c := by
  constructor
  · intro h
    unfold cmdS tk at h
    simp only at h
    split at h
    · cases h
    · next h1 =>
      obtain ⟨h1, h2⟩ := not_or.1 h1
      split at h
      · cases h
      · next h3 =>
        obtain ⟨h3, h4⟩ := not_or.1 h3
        obtain ⟨h4, h5⟩ := not_or.1 h4
        have h1 := Bool.eq_false_iff.2 h1
        have h3 := Bool.eq_false_iff.2 h3
        have h4 := Decidable.not_not.1 h4
        obtain ⟨b1, e1, o1⟩ := rbInt_good h1
        obtain ⟨-, e0, o0⟩ := (wNum_codec 15 (by omega)).good _ b1
        have e0 : t = _ := e0
        have hl0 : (wNum 15 ⟨t, false⟩).2.t.length ≤ t.length := by
          conv => rhs; rw [e0]
          rw [List.length_append]; omega
        have hl1 : (rbInt (wNum 15 ⟨t, false⟩).2).2.t.length ≤ (wNum 15 ⟨t, false⟩).2.t.length := intO_len _
        generalize hn : (wNum 15 ⟨t, false⟩).1 = n at h h1 h2 h3 h4 h5 e0 o0
        generalize (wNum 15 ⟨t, false⟩).2 = s1 at h h1 h3 h4 h5 e0 b1 e1 o1 hl0 hl1
        generalize (rbInt s1).1 = q at h h1 h3 h4 h5 e1 o1
        generalize (rbInt s1).2 = s2 at h h1 h3 h4 h5 e1 hl1
        have hF := wField_good (k := ckOf (n : Int)) (kd := n) (q := q) (s := s2) ⟨by omega, by omega⟩ o1 (by omega) h3
        generalize wField (ckOf (n : Int)) n q s2 = y at h h3 h4 h5 hF
        simp only [Option.some.injEq] at h
        subst h
        have hk := hF.kind
        refine ⟨?_, hF.ok, by omega, by omega, by simpa using h5, by rw [hk]; exact hF.bare⟩
        unfold cmdB
        rw [hk, hF.req]
        have e2 := hF.t
        rw [h4, List.append_nil] at e2
        rw [← e2, ← e1, show ((n : Nat) : Int).toNat = n from rfl]
        exact e0
  · rintro ⟨rfl, hc, h1, h2, h3, h4⟩
    obtain ⟨p1, p2, p3⟩ := small_iff.1 h3
    unfold cmdB at ht ⊢
    unfold cmdS
    rw [(wNum_codec 15 (by omega)).app _ _ (by omega)]
    unfold tk
    simp only
    rw [rbInt_app _ _ hc.req]
    simp only
    rw [if_neg (by rintro (h | h); (· cases h); omega)]
    have e : ((c.kind.toNat : Nat) : Int) = c.kind := by omega
    rw [e]
    have hl : (fieldsB (ckOf c.kind) c ++ []).length ≤ 70368744177664 := by
      simp only [List.length_append, List.length_nil] at ht ⊢; omega
    have := wField_app (k := ckOf c.kind) [] hc (fun x hx => by have := p3 x hx; omega) (by omega) hl
    rw [List.append_nil] at this
    rw [this, h4]
    simp [h3]
theorem cmdB_bare (c : CmdM) : cmdB (bareF (ckOf c.kind) c) = cmdB c := by
  unfold cmdB; rw [bare_kind, bare_req, bare_fields]
/-- What was written of a small command is read as the command that its kind has bytes for. -/
theorem cmdS_cmdB {c : CmdM} (hl : (cmdB c).length ≤ 70368744177664) (hc : c.ok) (h1 : 1 ≤ c.kind) (h2 : c.kind ≤ 15) (h3 : smallC c = true) : cmdS (cmdB c) = some (bareF (ckOf c.kind) c) := by
  refine (cmdS_iff hl).2 ⟨(cmdB_bare c).symm, bare_ok _ hc, ?_, ?_, small_bare _ h3, ?_⟩
  · rw [bare_kind]; exact h1
  · rw [bare_kind]; exact h2
  · rw [bare_kind, bare_bare]
end Go.Proofs.YthpmmfapolcaiaaGreatDoor

/- Plain: replies, their bytes, how they are read. -/
namespace Go.Proofs.YthpmmfapolcaiaaGreatDoor
open Go Go.Eng Go.Proofs

structure ReplyM where
  code : Int
  ids : List Int
  n0 : Int
  n1 : Int
  n2 : Int
  n3 : Int
  over : Bool
  pax : PaxM
  text : Bytes
structure ReplyM.ok (a : ReplyM) : Prop where
  code : i64ok a.code
  ids : ∀ z ∈ a.ids, i64ok z
  n0 : i64ok a.n0
  n1 : i64ok a.n1
  n2 : i64ok a.n2
  n3 : i64ok a.n3
  pax : a.pax.ok
/-- Ints of a passenger, in the order of its cells' bytes. -/
def paxI (p : PaxM) : List Int := [p.id, p.flight, p.cab, p.cls, p.status, p.tick, p.pass]
def replyB (a : ReplyM) : Bytes := intsB [a.code] ++ (numB a.ids.length ++ (intsB a.ids ++ (intsB [a.n0, a.n1, a.n2, a.n3] ++ (numB (marksN [a.over]) ++ (intsB (paxI a.pax) ++ (numB (marksN [a.pax.fit, a.pax.infant, a.pax.vol, a.pax.stb]) ++ (textB (seatB a.pax.num a.pax.c) ++ textB a.text)))))))
/-- Has the seat a text that says it? -/
def seatGood (n : Int) (c : Nat) : Bool := decide (seatB n c ≠ [45])
/-- What a seat's text says: nothing is the zero seat. -/
def seatS (x : Bytes) : Option (Int × Nat) := if x = [] then some (0, 0) else parseB x
theorem seatS_of {n : Int} {c : Nat} (h : seatGood n c = true) : seatS (seatB n c) = some (n, c) := by
  unfold seatGood at h
  have h := of_decide_eq_true h
  unfold seatB at h ⊢
  by_cases hz : n = 0 ∧ c = 0
  · rw [if_pos hz, hz.1, hz.2]; rfl
  · rw [if_neg hz] at h ⊢
    have hs : seatOk n c = true := by
      cases hs : seatOk n c with
      | true => rfl
      | false => exact absurd ((labelB_dash n c).2 hs) h
    have hl := (labelB_len n c).1
    unfold seatS
    rw [if_neg (by intro e; rw [e] at hl; exact absurd hl (by decide)), parseB_label hs]
theorem seatS_some {x : Bytes} {n : Int} {c : Nat} (h : seatS x = some (n, c)) : seatB n c = x ∧ seatGood n c = true ∧ i64ok n ∧ c < 256 := by
  unfold seatS at h
  split at h
  · next hx =>
    simp only [Option.some.injEq, Prod.mk.injEq] at h
    obtain ⟨rfl, rfl⟩ := h
    exact ⟨by rw [hx]; rfl, by decide, ok0, by omega⟩
  · next hx =>
    obtain ⟨h1, h2⟩ := parseB_some h
    obtain ⟨a1, a2, a3, a4⟩ := seatOk_iff.1 h1
    have e : seatB n c = x := by unfold seatB; rw [if_neg (by rintro ⟨h, -⟩; omega), h2]
    refine ⟨e, ?_, ⟨by omega, by omega⟩, by omega⟩
    unfold seatGood
    rw [e]
    refine decide_eq_true fun hd => ?_
    rw [← h2, labelB_dash, h1] at hd
    cases hd
/-- What is read of a payload: the reply without its seat, the seat's text. -/
def wReply (s : RB) : (ReplyM × Bytes) × RB :=
  tk (wInts 1 s) fun a s => tk (wNum s.t.length s) fun n s => tk (wInts n s) fun ids s => tk (wInts 4 s) fun x s => tk (wMarks 1 s) fun o s =>
  tk (wInts 7 s) fun p s => tk (wMarks 4 s) fun m s => tk (wText s) fun seat s => tk (wText s) fun t s =>
  ((⟨a.getD 0 0, ids, x.getD 0 0, x.getD 1 0, x.getD 2 0, x.getD 3 0, o.getD 0 false,
    ⟨p.getD 0 0, p.getD 1 0, p.getD 2 0, m.getD 0 false, m.getD 1 false, m.getD 2 false, m.getD 3 false, p.getD 3 0, p.getD 4 0, p.getD 5 0, p.getD 6 0, 0, 0⟩, t⟩, seat), s)
def withSeat (a : ReplyM) (n : Int) (c : Nat) : ReplyM := { a with pax := { a.pax with num := n, c := c } }
/-- The reply of a payload. -/
def replyS (t : Bytes) : Option ReplyM := tk (wReply ⟨t, false⟩) fun y s => match seatS y.2 with
  | none => none
  | some z => if s.bad = true ∨ s.t ≠ [] then none else some (withSeat y.1 z.1 z.2)
theorem all7 {a b c d e f g : Int} (ha : i64ok a) (hb : i64ok b) (hc : i64ok c) (hd : i64ok d) (he : i64ok e) (hf : i64ok f) (hg : i64ok g) : [a, b, c, d, e, f, g].length = 7 ∧ ∀ z ∈ [a, b, c, d, e, f, g], i64ok z := ⟨rfl, by
  intro z hz
  rcases List.mem_cons.1 hz with rfl | hz
  · exact ha
  rcases List.mem_cons.1 hz with rfl | hz
  · exact hb
  rcases List.mem_cons.1 hz with rfl | hz
  · exact hc
  · exact (all4 hd he hf hg).2 z hz⟩
theorem paxOk_of {l : List Int} {m : List Bool} (hl : ∀ z ∈ l, i64ok z) {n : Int} {c : Nat} (hn : i64ok n) (hc : c < 256) : PaxM.ok ⟨l.getD 0 0, l.getD 1 0, l.getD 2 0, m.getD 0 false, m.getD 1 false, m.getD 2 false, m.getD 3 false, l.getD 3 0, l.getD 4 0, l.getD 5 0, l.getD 6 0, n, c⟩ :=
  ⟨getD_ok hl 0, getD_ok hl 1, getD_ok hl 2, getD_ok hl 3, getD_ok hl 4, getD_ok hl 5, getD_ok hl 6, hn, hc⟩
/-- What a reading of a reply's fields answers. -/
structure ReplyR (s : RB) (y : (ReplyM × Bytes) × RB) : Prop where
  bad : s.bad = false
  t : ∀ n c, seatB n c = y.1.2 → s.t = replyB (withSeat y.1.1 n c) ++ y.2.t
  ok : ∀ n c, i64ok n → c < 256 → (withSeat y.1.1 n c).ok
theorem intsB_min (l : List Int) : l.length ≤ (intsB l).length := by
  induction l with
  | nil => exact Nat.zero_le _
  | cons z l ih =>
    have := numB_pos (zig z)
    simp only [intsB, List.map_cons, List.flatten_cons, List.length_append, List.length_cons, intB] at ih ⊢
    omega
theorem wReply_good {s : RB} (hs : s.t.length ≤ 70368744177664) (h : (wReply s).2.bad = false) : ReplyR s (wReply s) := by
  have hle : (wInts 1 s).2.t.length ≤ s.t.length := by
    show (intO s.t).2.2.length ≤ _
    exact intO_len s.t
  unfold wReply tk at h ⊢
  simp only at h ⊢
  obtain ⟨h9, e9, o9⟩ := wText_codec.good _ h
  obtain ⟨h8, e8, o8⟩ := wText_codec.good _ h9
  obtain ⟨h7, e7, o7⟩ := (wMarks_codec 4 (by omega)).good _ h8
  obtain ⟨h6, e6, o6⟩ := (wInts_codec 7).good _ h7
  obtain ⟨h5, e5, o5⟩ := (wMarks_codec 1 (by omega)).good _ h6
  obtain ⟨h4, e4, o4⟩ := (wInts_codec 4).good _ h5
  obtain ⟨h3, e3, o3⟩ := (wInts_codec _).good _ h4
  obtain ⟨h2, e2, o2⟩ := (wNum_codec _ (by omega)).good _ h3
  obtain ⟨h1, e1, o1⟩ := (wInts_codec 1).good _ h2
  refine ⟨h1, fun n c hn => ?_, fun n c hn hc => ?_⟩
  · simp only at hn
    unfold replyB withSeat paxI
    simp only
    rw [← lst1 0 o1.1, ← lst4 0 o4.1, ← lst1 false o5, ← lst7 0 o6.1, ← lst4 false o7, hn, o3.1]
    conv => lhs; rw [e1, e2, e3, e4, e5, e6, e7, e8, e9]
    simp only [List.append_assoc]
  · unfold withSeat
    simp only
    exact ⟨getD_ok o1.2 0, o3.2, getD_ok o4.2 0, getD_ok o4.2 1, getD_ok o4.2 2, getD_ok o4.2 3, paxOk_of o6.2 hn hc⟩
theorem wReply_app {a : ReplyM} (ha : a.ok) (hl : (replyB a).length ≤ 70368744177664) : wReply ⟨replyB a, false⟩ = ((withSeat a 0 0, seatB a.pax.num a.pax.c), ⟨[], false⟩) := by
  have hsl := seatB_len a.pax.num a.pax.c
  have hm := intsB_min a.ids
  unfold replyB at hl
  simp only [List.length_append] at hl
  have htx : (textB a.text).length = (numB a.text.length).length + a.text.length := by simp [textB]
  have e : replyB a = intsB [a.code] ++ (numB a.ids.length ++ (intsB a.ids ++ (intsB [a.n0, a.n1, a.n2, a.n3] ++ (numB (marksN [a.over]) ++ (intsB (paxI a.pax) ++ (numB (marksN [a.pax.fit, a.pax.infant, a.pax.vol, a.pax.stb]) ++ (textB (seatB a.pax.num a.pax.c) ++ (textB a.text ++ [])))))))) := by rw [List.append_nil]; rfl
  rw [e]
  have hp := ha.pax
  unfold wReply
  unfold tk
  rw [(wInts_codec 1).app _ _ (all1 ha.code)]
  simp only
  rw [(wNum_codec _ (by simp only [List.length_append, List.length_nil]; omega)).app _ _ (by simp only [List.length_append, List.length_nil]; omega)]
  simp only
  rw [(wInts_codec _).app _ _ ⟨rfl, ha.ids⟩]
  simp only
  rw [(wInts_codec 4).app _ _ (all4 ha.n0 ha.n1 ha.n2 ha.n3)]
  simp only
  rw [(wMarks_codec 1 (by omega)).app _ _ rfl]
  simp only
  rw [(wInts_codec 7).app _ _ (show (paxI a.pax).length = 7 ∧ _ from all7 hp.id hp.flight hp.cab hp.cls hp.status hp.tick hp.pass)]
  simp only
  rw [(wMarks_codec 4 (by omega)).app _ _ rfl]
  simp only
  rw [wText_codec.app _ _ (by omega)]
  simp only
  rw [wText_codec.app _ _ (by omega)]
  rfl
def RightR (a : ReplyM) : Prop := seatGood a.pax.num a.pax.c = true
theorem withSeat_self (a : ReplyM) : withSeat (withSeat a 0 0) a.pax.num a.pax.c = a := rfl
theorem replyS_iff {t : Bytes} (ht : t.length ≤ 70368744177664) {a : ReplyM} : replyS t = some a ↔ t = replyB a ∧ a.ok ∧ RightR a := by
  constructor
  · intro h
    unfold replyS tk at h
    simp only at h
    split at h
    · cases h
    · next z hz =>
      split at h
      · cases h
      · next h3 =>
        obtain ⟨h3, h4⟩ := not_or.1 h3
        have h3 := Bool.eq_false_iff.2 h3
        have h4 := Decidable.not_not.1 h4
        have hR := wReply_good ht h3
        obtain ⟨s1, s2, s3, s4⟩ := seatS_some hz
        simp only [Option.some.injEq] at h
        subst h
        refine ⟨?_, hR.ok _ _ s3 s4, s2⟩
        have := hR.t _ _ s1
        rw [h4, List.append_nil] at this
        exact this
  · rintro ⟨rfl, h1, h2⟩
    unfold replyS
    rw [wReply_app h1 ht]
    unfold tk
    simp only
    rw [seatS_of h2]
    simp [withSeat_self]
end Go.Proofs.YthpmmfapolcaiaaGreatDoor

/- Plain: commands and replies read loosely, and checked by writing them again. -/
namespace Go.Proofs.YthpmmfapolcaiaaGreatDoor
open Go Go.Eng Go.Proofs

/-- A row, read loosely. -/
def lRow (s : RB) : RowM × RB := tk (wInts 3 s) fun l s => tk (rbNum s) fun n s => tk (wText s) fun x s => (⟨l.getD 0 0, l.getD 1 0, l.getD 2 0, decide (n = 1), x⟩, s)
def lRows : Nat → RB × List RowM → RB × List RowM
  | 0, x => x
  | n + 1, (s, l) => if s.bad = true then (s, l) else lRows n ((lRow s).2, l ++ [(lRow s).1])
def lRowsT (t : Bytes) : RB × List RowM := lRows (rbNum ⟨t, false⟩).1 ((rbNum ⟨t, false⟩).2, [])
theorem lRow_app (a : RowM) (r : Bytes) (h : a.ok ∧ a.seats.length < 18446744073709551616) : lRow ⟨rowB a ++ r, false⟩ = (a, ⟨r, false⟩) := by
  have e : rowB a ++ r = intsB [a.num, a.cab, a.zone] ++ (numB (marksN [a.exit]) ++ (textB a.seats ++ r)) := by simp [rowB, textsB]
  have hm := marksN_lt [a.exit]
  rw [e]
  unfold lRow tk
  rw [(wInts_codec 3).app _ _ (all3 h.1.num h.1.cab h.1.zone)]
  simp only
  rw [rbNum_app _ _ (by simp only [List.length_singleton] at hm; omega)]
  simp only
  rw [wText_codec.app _ _ h.2]
  have e2 : decide (marksN [a.exit] = 1) = a.exit := by cases a.exit <;> rfl
  rw [e2]
  rfl
theorem lRows_app : ∀ (m : List RowM) (r : Bytes) (l : List RowM), (∀ x ∈ m, x.ok ∧ x.seats.length < 18446744073709551616) → lRows m.length (⟨rowsBt m ++ r, false⟩, l) = (⟨r, false⟩, l ++ m)
  | [], r, l, _ => by simp [lRows, rowsBt]
  | f :: m, r, l, h => by
    rw [List.length_cons]
    unfold lRows
    rw [if_neg nofun]
    have e : rowsBt (f :: m) ++ r = rowB f ++ (rowsBt m ++ r) := by simp [rowsBt]
    rw [e, lRow_app f _ (h f List.mem_cons_self)]
    simp only
    rw [lRows_app m r _ fun g hg => h g (List.mem_cons_of_mem _ hg)]
    simp
theorem lRow_ok (s : RB) : (lRow s).1.ok := ⟨getD_ok (wInts_ok 3 s) 0, getD_ok (wInts_ok 3 s) 1, getD_ok (wInts_ok 3 s) 2⟩
theorem lRows_ok : ∀ (n : Nat) (s : RB) (l : List RowM), (∀ f ∈ l, f.ok) → ∀ f ∈ (lRows n (s, l)).2, f.ok
  | 0, s, l, h => h
  | n + 1, s, l, h => by
    unfold lRows
    split
    · exact h
    · refine lRows_ok n _ _ fun f hf => ?_
      rcases List.mem_append.1 hf with hf | hf
      · exact h f hf
      · rw [List.mem_singleton] at hf; subst hf; exact lRow_ok s
def lField : CK → Int → Int → RB → CmdM × RB
  | .equip, k, q, s => tk (wInts 1 s) fun l s => ({ hdC k q with id := l.getD 0 0, rows := (lRowsT s.t).2 }, ⟨(lRowsT s.t).1.t, s.bad || (lRowsT s.t).1.bad⟩)
  | .flight, k, q, s => tk (wInts 2 s) fun l s => tk (wInts 4 s) fun x s => ({ hdC k q with id := l.getD 0 0, eq := l.getD 1 0, l0 := x.getD 0 0, l1 := x.getD 1 0, l2 := x.getD 2 0, l3 := x.getD 3 0 }, s)
  | .book, k, q, s => tk (wInts 4 s) fun l s => tk (rbNum s) fun n s => ({ hdC k q with id := l.getD 0 0, fl := l.getD 1 0, wcab := l.getD 2 0, cls := l.getD 3 0, fit := (bitsN 4 n).getD 0 false, inf := (bitsN 4 n).getD 1 false, vol := (bitsN 4 n).getD 2 false, stb := (bitsN 4 n).getD 3 false }, s)
  | .seat, k, q, s => tk (wInts 2 s) fun l s => tk (rbNum s) fun n s => ({ hdC k q with id := l.getD 0 0, num := l.getD 1 0, lt := n % 256 }, s)
  | .swap, k, q, s => tk (wInts 2 s) fun l s => ({ hdC k q with fl := l.getD 0 0, eq := l.getD 1 0 }, s)
  | .fl, k, q, s => tk (wInts 1 s) fun l s => ({ hdC k q with fl := l.getD 0 0 }, s)
  | .board, k, q, s => tk (wText s) fun x s => ({ hdC k q with text := x }, s)
  | .id, k, q, s => tk (wInts 1 s) fun l s => ({ hdC k q with id := l.getD 0 0 }, s)
theorem lField_ok (k : CK) {kd q : Int} (hk : i64ok kd) (hq : i64ok q) (s : RB) : (lField k kd q s).1.ok := by
  have h0 := hdC_ok hk hq
  cases k
  · exact { h0 with id := getD_ok (wInts_ok 1 s) 0, rows := lRows_ok _ _ _ (by nofun) }
  · exact { h0 with id := getD_ok (wInts_ok 2 s) 0, eq := getD_ok (wInts_ok 2 s) 1, l0 := getD_ok (wInts_ok 4 _) 0, l1 := getD_ok (wInts_ok 4 _) 1, l2 := getD_ok (wInts_ok 4 _) 2, l3 := getD_ok (wInts_ok 4 _) 3 }
  · exact { h0 with id := getD_ok (wInts_ok 4 s) 0, fl := getD_ok (wInts_ok 4 s) 1, wcab := getD_ok (wInts_ok 4 s) 2, cls := getD_ok (wInts_ok 4 s) 3 }
  · exact { h0 with id := getD_ok (wInts_ok 2 s) 0, num := getD_ok (wInts_ok 2 s) 1, lt := Nat.mod_lt _ (by decide) }
  · exact { h0 with fl := getD_ok (wInts_ok 2 s) 0, eq := getD_ok (wInts_ok 2 s) 1 }
  · exact { h0 with fl := getD_ok (wInts_ok 1 s) 0 }
  · exact { h0 with kind := hk }
  · exact { h0 with id := getD_ok (wInts_ok 1 s) 0 }
theorem lField_app {k : CK} {c : CmdM} (hc : c.ok) (hr : ∀ x ∈ c.rows, x.seats.length < 18446744073709551616) (ht : c.text.length < 18446744073709551616) (hrl : c.rows.length < 18446744073709551616) : lField k c.kind c.req ⟨fieldsB k c, false⟩ = (bareF k c, ⟨[], false⟩) := by
  rw [← List.append_nil (fieldsB k c)]
  cases k
  · simp only [fieldsB, List.append_assoc]
    unfold lField tk
    simp only
    rw [(wInts_codec 1).app _ _ (all1 hc.id)]
    simp only
    unfold lRowsT
    rw [rbNum_app _ _ hrl]
    simp only
    rw [lRows_app _ _ _ fun x hx => ⟨hc.rows x hx, hr x hx⟩]
    rfl
  · simp only [fieldsB, List.append_assoc]
    unfold lField tk
    simp only
    rw [(wInts_codec 2).app _ _ (all2 hc.id hc.eq)]
    simp only
    rw [(wInts_codec 4).app _ _ (all4 hc.l0 hc.l1 hc.l2 hc.l3)]
    rfl
  · have hm := marksN_lt [c.fit, c.inf, c.vol, c.stb]
    simp only [fieldsB, List.append_assoc]
    unfold lField tk
    simp only
    rw [(wInts_codec 4).app _ _ (all4 hc.id hc.fl hc.wcab hc.cls)]
    simp only
    rw [rbNum_app _ _ (by simp only [List.length_cons, List.length_nil] at hm; omega)]
    simp only
    rw [show bitsN 4 (marksN [c.fit, c.inf, c.vol, c.stb]) = _ from bits_marksN [c.fit, c.inf, c.vol, c.stb]]
    rfl
  · have h256 := hc.lt
    simp only [fieldsB, List.append_assoc]
    unfold lField tk
    simp only
    rw [(wInts_codec 2).app _ _ (all2 hc.id hc.num)]
    simp only
    rw [rbNum_app _ _ (by omega)]
    simp only
    rw [Nat.mod_eq_of_lt h256]
    rfl
  · simp only [fieldsB]
    unfold lField tk
    simp only
    rw [(wInts_codec 2).app _ _ (all2 hc.fl hc.eq)]
    rfl
  · simp only [fieldsB]
    unfold lField tk
    simp only
    rw [(wInts_codec 1).app _ _ (all1 hc.fl)]
    rfl
  · simp only [fieldsB]
    unfold lField tk
    simp only
    rw [wText_codec.app _ _ ht]
    rfl
  · simp only [fieldsB]
    unfold lField tk
    simp only
    rw [(wInts_codec 1).app _ _ (all1 hc.id)]
    rfl
def lCmd (t : Bytes) : Option (CmdM × RB) := tk (rbNum ⟨t, false⟩) fun k s => if k < 1 ∨ 15 < k then none else tk (rbInt s) fun q s => some (lField (ckOf k) k q s)
theorem lCmd_ok {t : Bytes} {y : CmdM × RB} (h : lCmd t = some y) : y.1.ok := by
  unfold lCmd tk at h
  simp only at h
  split at h
  · cases h
  · simp only [Option.some.injEq] at h
    subst h
    exact lField_ok _ ⟨by omega, by omega⟩ (rbInt_ok' _) _
theorem lCmd_app {c : CmdM} (hc : c.ok) (hR : RightC c) : lCmd (cmdB c) = some (c, ⟨[], false⟩) := by
  obtain ⟨h1, h2, h3, h4⟩ := hR
  obtain ⟨p1, p2, p3⟩ := small_iff.1 h3
  unfold lCmd cmdB
  rw [rbNum_app _ _ (by omega)]
  unfold tk
  simp only
  rw [if_neg (by omega), rbInt_app _ _ hc.req]
  simp only
  have e : ((c.kind.toNat : Nat) : Int) = c.kind := by omega
  rw [e, lField_app hc (fun x hx => by have := p3 x hx; omega) (by omega) (by omega), h4]
/-- Read loosely, checked by writing it again. -/
def checkC (t : Bytes) (o : Option (CmdM × RB)) : Option CmdM := match o with
  | none => none
  | some y => if y.2.bad = false ∧ RightC y.1 ∧ cmdB y.1 = t then some y.1 else none
theorem check_cmd {t : Bytes} (ht : t.length ≤ 70368744177664) : checkC t (lCmd t) = cmdS t := by
  cases h : cmdS t with
  | some c =>
    obtain ⟨e, h1, h2⟩ := (cmdS_iff ht).1 h
    have := lCmd_app h1 h2
    rw [← e] at this
    rw [this]
    exact if_pos ⟨rfl, h2, e.symm⟩
  | none =>
    cases h2 : lCmd t with
    | none => rfl
    | some y =>
      refine if_neg ?_
      rintro ⟨h3, h4, h5⟩
      have := (cmdS_iff ht).2 ⟨h5.symm, lCmd_ok h2, h4⟩
      rw [h] at this; cases this
/-- A passenger, read loosely; its id is not in these bytes. -/
def lPax (t : Bytes) (id : Int) : PaxM × RB := tk (wInts 6 ⟨t, false⟩) fun l s => tk (rbNum s) fun n s => tk (wText s) fun x s =>
  (⟨id, l.getD 0 0, l.getD 1 0, (bitsN 4 n).getD 0 false, (bitsN 4 n).getD 1 false, (bitsN 4 n).getD 2 false, (bitsN 4 n).getD 3 false, l.getD 2 0, l.getD 3 0, l.getD 4 0, l.getD 5 0, (parseO x).1, (parseO x).2.1⟩,
   ⟨s.t, s.bad || (!(parseO x).2.2 && decide (x ≠ []))⟩)
/-- A reply, read loosely. -/
def lReply (t : Bytes) : ReplyM × RB := tk (rbInt ⟨t, false⟩) fun code s => tk (rbNum s) fun n s => match rdI n (s, []) with
  | (s, ids) => tk (wInts 4 s) fun x s => tk (rbNum s) fun o s => tk (rbInt s) fun id s => match lPax s.t id with
    | (p, z) => tk (wText ⟨z.t, s.bad || z.bad⟩) fun tx s => (⟨code, ids, x.getD 0 0, x.getD 1 0, x.getD 2 0, x.getD 3 0, decide (o = 1), p, tx⟩, s)
theorem parseO_ok (x : Bytes) : i64ok (parseO x).1 ∧ (parseO x).2.1 < 256 := by
  unfold parseO
  cases h : parseB x with
  | none => exact ⟨ok0, by decide⟩
  | some z =>
    obtain ⟨n, c⟩ := z
    obtain ⟨h1, -⟩ := parseB_some h
    obtain ⟨a1, a2, a3, a4⟩ := seatOk_iff.1 h1
    exact ⟨⟨by simp only; omega, by simp only; omega⟩, by simp only; omega⟩
theorem lPax_ok (t : Bytes) {id : Int} (h : i64ok id) : (lPax t id).1.ok :=
  ⟨h, getD_ok (wInts_ok 6 _) 0, getD_ok (wInts_ok 6 _) 1, getD_ok (wInts_ok 6 _) 2, getD_ok (wInts_ok 6 _) 3, getD_ok (wInts_ok 6 _) 4, getD_ok (wInts_ok 6 _) 5, (parseO_ok _).1, (parseO_ok _).2⟩
theorem rdI_oks : ∀ (n : Nat) (s : RB) (l : List Int), (∀ z ∈ l, i64ok z) → ∀ z ∈ (rdI n (s, l)).2, i64ok z
  | 0, s, l, h => h
  | n + 1, s, l, h => by
    unfold rdI
    split
    · exact h
    · refine rdI_oks n _ _ fun f hf => ?_
      rcases List.mem_append.1 hf with hf | hf
      · exact h f hf
      · rw [List.mem_singleton] at hf; subst hf; exact rbInt_ok' s
theorem lReply_ok (t : Bytes) : (lReply t).1.ok :=
  ⟨rbInt_ok' _, rdI_oks _ _ _ (by nofun), getD_ok (wInts_ok 4 _) 0, getD_ok (wInts_ok 4 _) 1, getD_ok (wInts_ok 4 _) 2, getD_ok (wInts_ok 4 _) 3, lPax_ok _ (rbInt_ok' _)⟩
theorem all6 {a b c d e f : Int} (ha : i64ok a) (hb : i64ok b) (hc : i64ok c) (hd : i64ok d) (he : i64ok e) (hf : i64ok f) : [a, b, c, d, e, f].length = 6 ∧ ∀ z ∈ [a, b, c, d, e, f], i64ok z := ⟨rfl, by
  intro z hz
  rcases List.mem_cons.1 hz with rfl | hz
  · exact ha
  rcases List.mem_cons.1 hz with rfl | hz
  · exact hb
  · exact (all4 hc hd he hf).2 z hz⟩
theorem parseO_seat {n : Int} {c : Nat} (h : seatGood n c = true) : (parseO (seatB n c)).1 = n ∧ (parseO (seatB n c)).2.1 = c ∧ (!(parseO (seatB n c)).2.2 && decide (seatB n c ≠ [])) = false := by
  have hs := seatS_of h
  unfold seatS at hs
  split at hs
  · next he =>
    simp only [Option.some.injEq, Prod.mk.injEq] at hs
    rw [he]
    exact ⟨by rw [← hs.1]; rfl, by rw [← hs.2]; rfl, rfl⟩
  · unfold parseO
    rw [hs]
    exact ⟨rfl, rfl, rfl⟩
theorem lPax_app (p : PaxM) (r : Bytes) (hp : p.ok) (hs : seatGood p.num p.c = true) : lPax (intsB [p.flight, p.cab, p.cls, p.status, p.tick, p.pass] ++ (numB (marksN [p.fit, p.infant, p.vol, p.stb]) ++ (textB (seatB p.num p.c) ++ r))) p.id = (p, ⟨r, false⟩) := by
  have hm := marksN_lt [p.fit, p.infant, p.vol, p.stb]
  have hl := seatB_len p.num p.c
  obtain ⟨e1, e2, e3⟩ := parseO_seat hs
  unfold lPax tk
  rw [(wInts_codec 6).app _ _ (all6 hp.flight hp.cab hp.cls hp.status hp.tick hp.pass)]
  simp only
  rw [rbNum_app _ _ (by simp only [List.length_cons, List.length_nil] at hm; omega)]
  simp only
  rw [show bitsN 4 (marksN [p.fit, p.infant, p.vol, p.stb]) = _ from bits_marksN [p.fit, p.infant, p.vol, p.stb], wText_codec.app _ _ (by omega)]
  simp only
  rw [e1, e2, e3]
  rfl
theorem lReply_app {a : ReplyM} (ha : a.ok) (hR : RightR a) (hl : (replyB a).length ≤ 70368744177664) : lReply (replyB a) = (a, ⟨[], false⟩) := by
  have hp := ha.pax
  have hm := intsB_min a.ids
  have hmk := marksN_lt [a.over]
  have htx : (textB a.text).length = (numB a.text.length).length + a.text.length := by simp [textB]
  have e : replyB a = intB a.code ++ (numB a.ids.length ++ (intsB a.ids ++ (intsB [a.n0, a.n1, a.n2, a.n3] ++ (numB (marksN [a.over]) ++ (intB a.pax.id ++ (intsB [a.pax.flight, a.pax.cab, a.pax.cls, a.pax.status, a.pax.tick, a.pax.pass] ++ (numB (marksN [a.pax.fit, a.pax.infant, a.pax.vol, a.pax.stb]) ++ (textB (seatB a.pax.num a.pax.c) ++ (textB a.text ++ []))))))))) := by
    unfold replyB paxI intsB
    simp only [List.map_cons, List.map_nil, List.flatten_cons, List.flatten_nil, List.append_nil, List.append_assoc]
  unfold replyB at hl
  simp only [List.length_append] at hl
  rw [e]
  unfold lReply
  unfold tk
  rw [rbInt_app _ _ ha.code]
  simp only
  rw [rbNum_app _ _ (by omega)]
  simp only
  rw [rdI_app _ _ _ ha.ids]
  simp only
  rw [(wInts_codec 4).app _ _ (all4 ha.n0 ha.n1 ha.n2 ha.n3)]
  simp only
  rw [rbNum_app _ _ (by simp only [List.length_singleton] at hmk; omega)]
  simp only
  rw [rbInt_app _ _ hp.id]
  simp only
  rw [lPax_app _ _ hp hR]
  simp only
  rw [show (⟨textB a.text ++ [], false || false⟩ : RB) = ⟨textB a.text ++ [], false⟩ from rfl, wText_codec.app _ _ (by omega)]
  have e2 : decide (marksN [a.over] = 1) = a.over := by cases a.over <;> rfl
  rw [e2]
  rfl
def checkR (t : Bytes) (y : ReplyM × RB) : Option ReplyM := if y.2.bad = false ∧ seatGood y.1.pax.num y.1.pax.c = true ∧ replyB y.1 = t then some y.1 else none
theorem check_reply {t : Bytes} (ht : t.length ≤ 70368744177664) : checkR t (lReply t) = replyS t := by
  cases h : replyS t with
  | some a =>
    obtain ⟨e, h1, h2⟩ := (replyS_iff ht).1 h
    have := lReply_app h1 h2 (by rw [← e]; exact ht)
    rw [← e] at this
    rw [this]
    exact if_pos ⟨rfl, h2, e.symm⟩
  | none =>
    refine if_neg ?_
    rintro ⟨h3, h4, h5⟩
    have := (replyS_iff ht).2 ⟨h5.symm, lReply_ok t, h4⟩
    rw [h] at this; cases this
end Go.Proofs.YthpmmfapolcaiaaGreatDoor

/- Rows of pointers into a block: cells set one by one. -/
namespace Go.Eng
open Go
def setL : List Value → List Nat → List Value → List Value
  | xs, o :: os, v :: vs => setL (xs.set o v) os vs
  | xs, _, _ => xs
theorem setL_snoc : ∀ (os : List Nat) (vs xs : List Value) (o : Nat) (v : Value), os.length = vs.length → setL xs (os ++ [o]) (vs ++ [v]) = (setL xs os vs).set o v
  | [], [], _, _, _, _ => rfl
  | _ :: os, _ :: vs, xs, o, v, h => setL_snoc os vs _ o v (by simpa using h)
theorem setL_len : ∀ (os : List Nat) (vs xs : List Value), (setL xs os vs).length = xs.length
  | [], vs, _ => by cases vs <;> simp [setL]
  | _ :: _, [], _ => by simp [setL]
  | o :: os, v :: vs, xs => by unfold setL; rw [setL_len os vs, List.length_set]
abbrev ptrTo (b o : Nat) : Value := .pointer (some ⟨b, o, none⟩)
end Go.Eng

/- Blocks apart. -/
namespace Go.Eng
open Go
theorem nodup_chunk {w0 w : World} {T : List Nat} {b : Nat} {o : Obj} {H L : Heap} {F : Heap → Heap} (hS : St w0 T ((b, o) :: H) w) [hc : Chunk H L F] : b ∉ keys L := by
  obtain ⟨A, B, h1, -⟩ := hc.at_
  have := hS.nd
  rw [h1] at this
  simp only [keys, List.map_cons, List.map_append, List.nodup_cons] at this
  intro h
  exact this.1 (List.mem_append_right _ (List.mem_append_left _ h))
/-- A row of the call's own, from a place on. -/
theorem St.arrAt {w0 w : World} {T : List Nat} {H : Heap} {b off : Nat} {l xs : List Value} {t : TypeId} {fz : Nat × Nat} {F : Obj → Heap} (hS : St w0 T H w) [Slot H b (.cells ⟨l⟩ t fz) F]
    (hx : (l.drop off).take xs.length = xs) {T' : List Nat} (hb : b ∉ T') : Arr w T' (some ⟨b, off, none⟩) xs := fun j x hj => ⟨b, off, rfl, hb, by
      rw [← hx, List.getElem?_take] at hj
      split at hj
      · rw [List.getElem?_drop] at hj; exact hS.cell hj
      · cases hj⟩
theorem nodup_last {w0 w : World} {T : List Nat} {x : Nat × Obj} {L : Heap} {b : Nat} {o : Obj} (hS : St w0 T (x :: (L ++ [(b, o)])) w) : b ∉ keys L := by
  have := hS.nd
  rw [keys, List.map_cons, List.nodup_cons, List.map_append, List.nodup_append] at this
  intro h
  exact this.2.2.2 _ h _ (by simp) rfl
end Go.Eng

/- Package wire: the reader. -/
namespace Go.Proofs.YthpmmfapolcaiaaGreatDoor
open Go Go.Eng Go.Proofs
abbrev wrdC (rb : Nat) (bad : Bool) : Obj := .cells ⟨[ptr rb, .bool bad]⟩ T_wire_reader (0, 0)
/-- The reader's memory. -/
abbrev rdH (rr rb : Nat) (s : RB) : Heap := [(rr, wrdC rb s.bad), (rb, rdC s.t)]
theorem rbInt_len' (s : RB) : (rbInt s).2.t.length ≤ s.t.length := intO_len s.t
theorem wInts_succ : ∀ (k : Nat) (s : RB), wInts (k + 1) s = ((wInts k s).1 ++ [(rbInt (wInts k s).2).1], (rbInt (wInts k s).2).2)
  | 0, s => rfl
  | k + 1, s => by
    have := wInts_succ k (rbInt s).2
    show ((rbInt s).1 :: (wInts (k + 1) (rbInt s).2).1, (wInts (k + 1) (rbInt s).2).2) = _
    rw [this]; rfl
theorem wInts_tlen : ∀ (k : Nat) (s : RB), (wInts k s).2.t.length ≤ s.t.length
  | 0, _ => Nat.le_refl _
  | k + 1, s => Nat.le_trans (wInts_tlen k _) (rbInt_len' s)
theorem wNum_tlen (most : Nat) (s : RB) : (wNum most s).2.t.length ≤ s.t.length := by
  have := numO_len s.t
  unfold wNum; split <;> exact this
theorem wText_tlen (s : RB) : (wText s).2.t.length ≤ s.t.length := by
  have := textO_len s.t
  unfold wText; simp only; omega
theorem textO_err (t : Bytes) : (textO t).2.1 = 0 ∨ (textO t).2.1 = 1 := by
  unfold textO
  cases textR t with
  | none => exact .inr rfl
  | some x => exact .inl rfl
set_option maxHeartbeats 1000000 in
theorem rnum_spec {w : World} {rr rb most : Nat} {s : RB} (hh : Holds (rdH rr rb s) w) (ht : s.t.length ≤ 70368744177664) (hm : most < 18446744073709551616) :
    Cl Tryz.prog f_wire_reader_num [ptr rr, .int .u64 most] w fun v w' => v = .int .u64 (wNum most s).1 ∧ St w [rr, rb] (rdH rr rb (wNum most s).2) w' := by
  have hS : St w [rr, rb] [(rr, wrdC rb s.bad), (rb, rdC s.t)] w := St.enter hh
  refine en_wire_reader_num rfl ?_
  repeat (first | refine SemW.run tblOk ?_ | refine jA (by omega) ?_ | refine jB (by omega) ?_ | refine jC (by omega) ?_ | refine jD (by omega) ?_ | refine jE rfl ?_ | refine jF (by omega) ?_ | (refine jG ?_; first | with_reducible (first | refine jH ?_ | refine jI ?_ | refine jJ ?_ | refine jK ?_ | refine jL ?_) | refine jM (by omega) ?_ | refine jN (by omega) ?_ | with_reducible refine jM rfl ?_ | refine jM (by assumption) ?_ | refine jN (by assumption) ?_ | refine jM (by decide) ?_ | refine jN (by decide) ?_) | refine jF (ptr_ok tblOk rfl rfl) ?_ | refine jO (fun _ => by kernel_rfl) ?_ | refine jF (by decide) ?_ | refine hS.ld rfl ?_ | refine hS.ldn rfl ?_ | (refine hS.st rfl rfl ?_; intro _ hS))
  refine Cl.mono (RNum_spec (hS.part (L := [(rb, rdC s.t)])) ht) ?_
  rintro _ w1 ⟨rfl, hS'⟩
  have hS := hS.call (L := [(rb, rdC s.t)]) hS'
  have hS : St w [rr, rb] [(rr, .cells ⟨[ptr rb, .bool s.bad]⟩ T_wire_reader (0, 0)), (rb, .cells ⟨[Str (numO s.t).2.2]⟩ T_pack_Reader (0, 0))] w1 := hS
  obtain ⟨t, bad⟩ := s
  have he := numO_err t
  have hlt := numO_lt t
  unfold wNum
  simp only at hS he hlt ⊢
  generalize numO t = x at hS he hlt ⊢
  obtain ⟨n, er, r⟩ := x
  simp only at hS he hlt ⊢
  rcases he with rfl | rfl
  · by_cases hn : most < n
    · rw [if_pos (.inr hn)]
      repeat (first | refine SemW.run tblOk ?_ | refine jA (by omega) ?_ | refine jB (by omega) ?_ | refine jC (by omega) ?_ | refine jD (by omega) ?_ | refine jE rfl ?_ | refine jF (by omega) ?_ | (refine jG ?_; first | with_reducible (first | refine jH ?_ | refine jI ?_ | refine jJ ?_ | refine jK ?_ | refine jL ?_) | refine jM (by omega) ?_ | refine jN (by omega) ?_ | with_reducible refine jM rfl ?_ | refine jM (by assumption) ?_ | refine jN (by assumption) ?_ | refine jM (by decide) ?_ | refine jN (by decide) ?_) | refine jF (ptr_ok tblOk rfl rfl) ?_ | refine jO (fun _ => by kernel_rfl) ?_ | refine jF (by decide) ?_ | refine hS.ld rfl ?_ | refine hS.ldn rfl ?_ | (refine hS.st rfl rfl ?_; intro _ hS))
      exact ⟨rfl, hS⟩
    · rw [if_neg (by rintro (h | h); (· exact h rfl); exact hn h)]
      repeat (first | refine SemW.run tblOk ?_ | refine jA (by omega) ?_ | refine jB (by omega) ?_ | refine jC (by omega) ?_ | refine jD (by omega) ?_ | refine jE rfl ?_ | refine jF (by omega) ?_ | (refine jG ?_; first | with_reducible (first | refine jH ?_ | refine jI ?_ | refine jJ ?_ | refine jK ?_ | refine jL ?_) | refine jM (by omega) ?_ | refine jN (by omega) ?_ | with_reducible refine jM rfl ?_ | refine jM (by assumption) ?_ | refine jN (by assumption) ?_ | refine jM (by decide) ?_ | refine jN (by decide) ?_) | refine jF (ptr_ok tblOk rfl rfl) ?_ | refine jO (fun _ => by kernel_rfl) ?_ | refine jF (by decide) ?_ | refine hS.ld rfl ?_ | refine hS.ldn rfl ?_ | (refine hS.st rfl rfl ?_; intro _ hS))
      exact ⟨rfl, hS⟩
  · rw [if_pos (.inl (by decide))]
    repeat (first | refine SemW.run tblOk ?_ | refine jA (by omega) ?_ | refine jB (by omega) ?_ | refine jC (by omega) ?_ | refine jD (by omega) ?_ | refine jE rfl ?_ | refine jF (by omega) ?_ | (refine jG ?_; first | with_reducible (first | refine jH ?_ | refine jI ?_ | refine jJ ?_ | refine jK ?_ | refine jL ?_) | refine jM (by omega) ?_ | refine jN (by omega) ?_ | with_reducible refine jM rfl ?_ | refine jM (by assumption) ?_ | refine jN (by assumption) ?_ | refine jM (by decide) ?_ | refine jN (by decide) ?_) | refine jF (ptr_ok tblOk rfl rfl) ?_ | refine jO (fun _ => by kernel_rfl) ?_ | refine jF (by decide) ?_ | refine hS.ld rfl ?_ | refine hS.ldn rfl ?_ | (refine hS.st rfl rfl ?_; intro _ hS))
    exact ⟨rfl, hS⟩
/-- The block that is read into, and the reader's memory. -/
abbrev tgH (b : Nat) (xs : List Value) (ty : TypeId) (rr rb : Nat) (s : RB) : Heap := (b, .cells ⟨xs⟩ ty (0, 0)) :: rdH rr rb s
set_option maxHeartbeats 2000000 in
theorem rint_spec {w : World} {b rr rb : Nat} {xs : List Value} {ty : TypeId} {s : RB} (hh : Holds (tgH b xs ty rr rb s) w) (ht : s.t.length ≤ 70368744177664) {a : Option Addr} {cap : Nat} {offs : List Nat} (ha : Arr w [b, rr, rb] a (offs.map fun o => ptrTo b o)) (ho : ∀ o ∈ offs, o < xs.length) (hol : offs.length ≤ 1024) :
    Cl Tryz.prog f_wire_reader_int [ptr rr, .slice a offs.length cap] w fun _ w' => St w [b, rr, rb] (tgH b (setL xs offs ((wInts offs.length s).1.map intV)) ty rr rb (wInts offs.length s).2) w' := by
  have hS : St w [b, rr, rb] [(b, .cells ⟨xs⟩ ty (0, 0)), (rr, wrdC rb s.bad), (rb, rdC s.t)] w := St.enter hh
  refine en_wire_reader_int rfl ?_
  repeat (first | refine SemW.run tblOk ?_ | refine jA (by omega) ?_ | refine jB (by omega) ?_ | refine jC (by omega) ?_ | refine jD (by omega) ?_ | refine jE rfl ?_ | refine jF (by omega) ?_ | (refine jG ?_; first | with_reducible (first | refine jH ?_ | refine jI ?_ | refine jJ ?_ | refine jK ?_ | refine jL ?_) | refine jM (by omega) ?_ | refine jN (by omega) ?_ | with_reducible refine jM rfl ?_ | refine jM (by assumption) ?_ | refine jN (by assumption) ?_ | refine jM (by decide) ?_ | refine jN (by decide) ?_) | refine jF (ptr_ok tblOk rfl rfl) ?_ | refine jO (fun _ => by kernel_rfl) ?_ | refine jF (by decide) ?_)
  refine SemW.loop (fun k : Nat => [(0, ptr rr), (8, .slice a offs.length cap), (9, .int .i64 offs.length), (10, .int .i64 k)])
    (fun k w' => k ≤ offs.length ∧ St w [b, rr, rb] (tgH b (setL xs (offs.take k) ((wInts k s).1.map intV)) ty rr rb (wInts k s).2) w') (fun k => offs.length - k) 0
    ⟨rfl, rfl, rfl, rfl, trivial⟩ ⟨Nat.zero_le _, hS⟩ ?_
  clear hS
  rintro k w2 ⟨hk, hS⟩
  by_cases hkl : k < offs.length
  · obtain ⟨b', off', rfl, hbT, hck⟩ := ha.get (j := k) (by simp; omega)
    simp only [List.getElem_map] at hck
    have hsucc := wInts_succ k s
    have htl := wInts_tlen k s
    have hwl := wInts_len k s
    have hox := ho offs[k] (List.getElem_mem hkl)
    have hset := setL_snoc (offs.take k) ((wInts k s).1.map intV) xs offs[k] (intV (rbInt (wInts k s).2).1) (by rw [List.length_take, List.length_map, hwl]; omega)
    rw [← List.take_succ_eq_append_getElem hkl] at hset
    have hsl := setL_len (offs.take k) ((wInts k s).1.map intV) xs
    have hfin : tgH b (setL xs (offs.take (k + 1)) ((wInts (k + 1) s).1.map intV)) ty rr rb (wInts (k + 1) s).2 = tgH b ((setL xs (offs.take k) ((wInts k s).1.map intV)).set offs[k] (intV (rbInt (wInts k s).2).1)) ty rr rb (rbInt (wInts k s).2).2 := by
      rw [hsucc, ← hset]; simp
    generalize setL xs (offs.take k) ((wInts k s).1.map intV) = ys at hS hfin hsl
    generalize (wInts k s).2 = s1 at hS hfin htl
    clear hset hsucc
    generalize offs[k] = o at hck hox hfin
    repeat (first | refine SemW.run tblOk ?_ | refine jA (by omega) ?_ | refine jB (by omega) ?_ | refine jC (by omega) ?_ | refine jD (by omega) ?_ | refine jE rfl ?_ | refine jF (by omega) ?_ | (refine jG ?_; first | with_reducible (first | refine jH ?_ | refine jI ?_ | refine jJ ?_ | refine jK ?_ | refine jL ?_) | refine jM (by omega) ?_ | refine jN (by omega) ?_ | with_reducible refine jM rfl ?_ | refine jM (by assumption) ?_ | refine jN (by assumption) ?_ | refine jM (by decide) ?_ | refine jN (by decide) ?_) | refine jF (ptr_ok tblOk rfl rfl) ?_ | refine jO (fun _ => by kernel_rfl) ?_ | refine jF (by decide) ?_)
    refine hS.ldOld hbT (by simpa using hck) ?_
    repeat (first | refine SemW.run tblOk ?_ | refine jA (by omega) ?_ | refine jB (by omega) ?_ | refine jC (by omega) ?_ | refine jD (by omega) ?_ | refine jE rfl ?_ | refine jF (by omega) ?_ | (refine jG ?_; first | with_reducible (first | refine jH ?_ | refine jI ?_ | refine jJ ?_ | refine jK ?_ | refine jL ?_) | refine jM (by omega) ?_ | refine jN (by omega) ?_ | with_reducible refine jM rfl ?_ | refine jM (by assumption) ?_ | refine jN (by assumption) ?_ | refine jM (by decide) ?_ | refine jN (by decide) ?_) | refine jF (ptr_ok tblOk rfl rfl) ?_ | refine jO (fun _ => by kernel_rfl) ?_ | refine jF (by decide) ?_ | refine hS.ld rfl ?_ | refine hS.ldn rfl ?_ | (refine hS.st rfl rfl ?_; intro _ hS))
    refine Cl.mono (RInt_spec (hS.part (L := [(rb, rdC s1.t)])) (by omega)) ?_
    rintro _ w3 ⟨rfl, hS'⟩
    have hS := hS.call (L := [(rb, rdC s1.t)]) hS'
    have hS : St w [b, rr, rb] [(b, .cells ⟨ys⟩ ty (0, 0)), (rr, .cells ⟨[ptr rb, .bool s1.bad]⟩ T_wire_reader (0, 0)), (rb, .cells ⟨[Str (intO s1.t).2.2]⟩ T_pack_Reader (0, 0))] w3 := hS
    obtain ⟨t1, bd⟩ := s1
    have he := intO_err t1
    unfold rbInt at hfin
    simp only at hS he hfin ⊢
    generalize intO t1 = x at hS he hfin ⊢
    obtain ⟨z, er, r⟩ := x
    simp only at hS he hfin ⊢
    repeat (first | refine SemW.run tblOk ?_ | refine jA (by omega) ?_ | refine jB (by omega) ?_ | refine jC (by omega) ?_ | refine jD (by omega) ?_ | refine jE rfl ?_ | refine jF (by omega) ?_ | (refine jG ?_; first | with_reducible (first | refine jH ?_ | refine jI ?_ | refine jJ ?_ | refine jK ?_ | refine jL ?_) | refine jM (by omega) ?_ | refine jN (by omega) ?_ | with_reducible refine jM rfl ?_ | refine jM (by assumption) ?_ | refine jN (by assumption) ?_ | refine jM (by decide) ?_ | refine jN (by decide) ?_) | refine jF (ptr_ok tblOk rfl rfl) ?_ | refine jO (fun _ => by kernel_rfl) ?_ | refine jF (by decide) ?_ | refine hS.ld rfl ?_ | refine hS.ldn rfl ?_ | (refine hS.st rfl rfl ?_; intro _ hS))
    refine hS.stI rfl (by omega) ?_
    intro w4 hS
    have hS : St w [b, rr, rb] [(b, .cells ⟨ys.set o (intV z)⟩ ty (0, 0)), (rr, .cells ⟨[ptr rb, .bool bd]⟩ T_wire_reader (0, 0)), (rb, .cells ⟨[Str r]⟩ T_pack_Reader (0, 0))] w4 := hS
    cases bd with
    | true =>
      repeat (first | refine SemW.run tblOk ?_ | refine jA (by omega) ?_ | refine jB (by omega) ?_ | refine jC (by omega) ?_ | refine jD (by omega) ?_ | refine jE rfl ?_ | refine jF (by omega) ?_ | (refine jG ?_; first | with_reducible (first | refine jH ?_ | refine jI ?_ | refine jJ ?_ | refine jK ?_ | refine jL ?_) | refine jM (by omega) ?_ | refine jN (by omega) ?_ | with_reducible refine jM rfl ?_ | refine jM (by assumption) ?_ | refine jN (by assumption) ?_ | refine jM (by decide) ?_ | refine jN (by decide) ?_) | refine jF (ptr_ok tblOk rfl rfl) ?_ | refine jO (fun _ => by kernel_rfl) ?_ | refine jF (by decide) ?_ | refine hS.ld rfl ?_ | refine hS.ldn rfl ?_ | (refine hS.st rfl rfl ?_; intro _ hS))
      exact ⟨k + 1, ⟨rfl, rfl, rfl, rfl, trivial⟩, ⟨by omega, by rw [hfin]; exact hS⟩, by omega⟩
    | false =>
      rcases he with rfl | rfl
      · repeat (first | refine SemW.run tblOk ?_ | refine jA (by omega) ?_ | refine jB (by omega) ?_ | refine jC (by omega) ?_ | refine jD (by omega) ?_ | refine jE rfl ?_ | refine jF (by omega) ?_ | (refine jG ?_; first | with_reducible (first | refine jH ?_ | refine jI ?_ | refine jJ ?_ | refine jK ?_ | refine jL ?_) | refine jM (by omega) ?_ | refine jN (by omega) ?_ | with_reducible refine jM rfl ?_ | refine jM (by assumption) ?_ | refine jN (by assumption) ?_ | refine jM (by decide) ?_ | refine jN (by decide) ?_) | refine jF (ptr_ok tblOk rfl rfl) ?_ | refine jO (fun _ => by kernel_rfl) ?_ | refine jF (by decide) ?_ | refine hS.ld rfl ?_ | refine hS.ldn rfl ?_ | (refine hS.st rfl rfl ?_; intro _ hS))
        exact ⟨k + 1, ⟨rfl, rfl, rfl, rfl, trivial⟩, ⟨by omega, by rw [hfin]; exact hS⟩, by omega⟩
      · repeat (first | refine SemW.run tblOk ?_ | refine jA (by omega) ?_ | refine jB (by omega) ?_ | refine jC (by omega) ?_ | refine jD (by omega) ?_ | refine jE rfl ?_ | refine jF (by omega) ?_ | (refine jG ?_; first | with_reducible (first | refine jH ?_ | refine jI ?_ | refine jJ ?_ | refine jK ?_ | refine jL ?_) | refine jM (by omega) ?_ | refine jN (by omega) ?_ | with_reducible refine jM rfl ?_ | refine jM (by assumption) ?_ | refine jN (by assumption) ?_ | refine jM (by decide) ?_ | refine jN (by decide) ?_) | refine jF (ptr_ok tblOk rfl rfl) ?_ | refine jO (fun _ => by kernel_rfl) ?_ | refine jF (by decide) ?_ | refine hS.ld rfl ?_ | refine hS.ldn rfl ?_ | (refine hS.st rfl rfl ?_; intro _ hS))
        exact ⟨k + 1, ⟨rfl, rfl, rfl, rfl, trivial⟩, ⟨by omega, by rw [hfin]; exact hS⟩, by omega⟩
  · have hke : k = offs.length := by omega
    subst hke
    rw [List.take_length] at hS
    repeat (first | refine SemW.run tblOk ?_ | refine jA (by omega) ?_ | refine jB (by omega) ?_ | refine jC (by omega) ?_ | refine jD (by omega) ?_ | refine jE rfl ?_ | refine jF (by omega) ?_ | (refine jG ?_; first | with_reducible (first | refine jH ?_ | refine jI ?_ | refine jJ ?_ | refine jK ?_ | refine jL ?_) | refine jM (by omega) ?_ | refine jN (by omega) ?_ | with_reducible refine jM rfl ?_ | refine jM (by assumption) ?_ | refine jN (by assumption) ?_ | refine jM (by decide) ?_ | refine jN (by decide) ?_) | refine jF (ptr_ok tblOk rfl rfl) ?_ | refine jO (fun _ => by kernel_rfl) ?_ | refine jF (by decide) ?_)
    exact hS
theorem bitsN_get : ∀ (k n i : Nat) (h : i < (bitsN k n).length), (bitsN k n)[i] = decide (n / 2 ^ i % 2 = 1)
  | 0, _, _, h => by simp [bitsN] at h
  | k + 1, n, 0, _ => by simp [bitsN]
  | k + 1, n, i + 1, h => by
    have := bitsN_get k (n / 2) i (by simpa [bitsN] using h)
    simp only [bitsN, List.getElem_cons_succ]
    rw [this, Nat.div_div_eq_div_mul, Nat.pow_succ, Nat.mul_comm]
theorem shr_u (n i : Nat) (hi : i < 64) : (n : Int).fdiv (2 ^ (min ((i : Int)).toNat IntKind.u64.bits)) = ((n / 2 ^ i : Nat) : Int) := by
  have e : min ((i : Int)).toNat IntKind.u64.bits = i := by show min i 64 = i; omega
  rw [e]
  have h2 : ((2 : Int) ^ i) = ((2 ^ i : Nat) : Int) := by simp
  rw [h2, Int.fdiv_eq_ediv_of_nonneg _ (Int.natCast_nonneg _)]
  exact (Int.natCast_ediv n (2 ^ i)).symm
theorem and_one (n : Nat) (h : n < 18446744073709551616) : andI .u64 (n : Int) 1 = ((n % 2 : Nat) : Int) := by
  have e := andU .u64 rfl n 1 (show n < 18446744073709551616 by omega) (show 1 < 18446744073709551616 by omega)
  rw [Nat.and_one_is_mod] at e
  exact e
set_option maxHeartbeats 2000000 in
theorem rmarks_spec {w : World} {b rr rb : Nat} {xs : List Value} {ty : TypeId} {s : RB} (hh : Holds (tgH b xs ty rr rb s) w) (ht : s.t.length ≤ 70368744177664) {a : Option Addr} {cap : Nat} {offs : List Nat} (ha : Arr w [b, rr, rb] a (offs.map fun o => ptrTo b o)) (ho : ∀ o ∈ offs, o < xs.length) (hol : offs.length ≤ 8) :
    Cl Tryz.prog f_wire_reader_marks [ptr rr, .slice a offs.length cap] w fun _ w' => St w [b, rr, rb] (tgH b (setL xs offs ((wMarks offs.length s).1.map Value.bool)) ty rr rb (wMarks offs.length s).2) w' := by
  have hS : St w [b, rr, rb] [(b, .cells ⟨xs⟩ ty (0, 0)), (rr, wrdC rb s.bad), (rb, rdC s.t)] w := St.enter hh
  have hp8 : 2 ^ offs.length ≤ 2 ^ 8 := Nat.pow_le_pow_right (by omega) hol
  have hp0 : 0 < 2 ^ offs.length := Nat.two_pow_pos _
  have e1 : IntKind.u64.wrap (1 * 2 ^ (min ((offs.length : Int)).toNat IntKind.u64.bits)) = ((2 ^ offs.length : Nat) : Int) := by
    rw [show min ((offs.length : Int)).toNat IntKind.u64.bits = offs.length by show min _ 64 = _; omega]
    have e2 : (1 : Int) * 2 ^ offs.length = ((2 ^ offs.length : Nat) : Int) := by simp
    have e3 : 2 ^ offs.length % 2 ^ IntKind.u64.bits = 2 ^ offs.length := Nat.mod_eq_of_lt (show 2 ^ offs.length < 18446744073709551616 by omega)
    rw [e2, wrapU .u64 rfl, e3]
  refine en_wire_reader_marks rfl ?_
  repeat (first | refine SemW.run tblOk ?_ | refine jA (by omega) ?_ | refine jB (by omega) ?_ | refine jC (by omega) ?_ | refine jD (by omega) ?_ | refine jE rfl ?_ | refine jF (by omega) ?_ | (refine jG ?_; first | with_reducible (first | refine jH ?_ | refine jI ?_ | refine jJ ?_ | refine jK ?_ | refine jL ?_) | refine jM (by omega) ?_ | refine jN (by omega) ?_ | with_reducible refine jM rfl ?_ | refine jM (by assumption) ?_ | refine jN (by assumption) ?_ | refine jM (by decide) ?_ | refine jN (by decide) ?_) | refine jF (ptr_ok tblOk rfl rfl) ?_ | refine jO (fun _ => by kernel_rfl) ?_ | refine jF (by decide) ?_)
  rw [e1]
  repeat (first | refine SemW.run tblOk ?_ | refine jA (by omega) ?_ | refine jB (by omega) ?_ | refine jC (by omega) ?_ | refine jD (by omega) ?_ | refine jE rfl ?_ | refine jF (by omega) ?_ | (refine jG ?_; first | with_reducible (first | refine jH ?_ | refine jI ?_ | refine jJ ?_ | refine jK ?_ | refine jL ?_) | refine jM (by omega) ?_ | refine jN (by omega) ?_ | with_reducible refine jM rfl ?_ | refine jM (by assumption) ?_ | refine jN (by assumption) ?_ | refine jM (by decide) ?_ | refine jN (by decide) ?_) | refine jF (ptr_ok tblOk rfl rfl) ?_ | refine jO (fun _ => by kernel_rfl) ?_ | refine jF (by decide) ?_)
  rw [show ((2 ^ offs.length : Nat) : Int) - 1 = ((2 ^ offs.length - 1 : Nat) : Int) by omega]
  refine Cl.mono (rnum_spec (s := s) (most := 2 ^ offs.length - 1) (hS.part (L := rdH rr rb s)) ht (by omega)) ?_
  rintro _ w1 ⟨rfl, hS'⟩
  have hS := hS.call (L := rdH rr rb s) hS'
  have hS : St w [b, rr, rb] (tgH b xs ty rr rb (wNum (2 ^ offs.length - 1) s).2) w1 := hS
  have hwn : (wNum (2 ^ offs.length - 1) s).1 ≤ 2 ^ offs.length - 1 := by
    unfold wNum
    split
    · exact Nat.zero_le _
    · next h => exact Nat.le_of_not_lt (not_or.1 h).2
  unfold wMarks
  generalize wNum (2 ^ offs.length - 1) s = y at hS hwn ⊢
  obtain ⟨n, s1⟩ := y
  simp only at hS hwn ⊢
  have hbl := bitsN_len offs.length n
  repeat (first | refine SemW.run tblOk ?_ | refine jA (by omega) ?_ | refine jB (by omega) ?_ | refine jC (by omega) ?_ | refine jD (by omega) ?_ | refine jE rfl ?_ | refine jF (by omega) ?_ | (refine jG ?_; first | with_reducible (first | refine jH ?_ | refine jI ?_ | refine jJ ?_ | refine jK ?_ | refine jL ?_) | refine jM (by omega) ?_ | refine jN (by omega) ?_ | with_reducible refine jM rfl ?_ | refine jM (by assumption) ?_ | refine jN (by assumption) ?_ | refine jM (by decide) ?_ | refine jN (by decide) ?_) | refine jF (ptr_ok tblOk rfl rfl) ?_ | refine jO (fun _ => by kernel_rfl) ?_ | refine jF (by decide) ?_)
  refine SemW.loop (fun k : Nat => [(4, .int .u64 n), (14, .slice a offs.length cap), (15, .int .i64 offs.length), (16, .int .i64 k)])
    (fun k w' => k ≤ offs.length ∧ St w [b, rr, rb] (tgH b (setL xs (offs.take k) (((bitsN offs.length n).take k).map Value.bool)) ty rr rb s1) w') (fun k => offs.length - k) 0
    ⟨rfl, rfl, rfl, rfl, trivial⟩ ⟨Nat.zero_le _, hS⟩ ?_
  clear hS
  rintro k w2 ⟨hk, hS⟩
  by_cases hkl : k < offs.length
  · obtain ⟨b', off', rfl, hbT, hck⟩ := ha.get (j := k) (by simp; omega)
    simp only [List.getElem_map] at hck
    have hox := ho offs[k] (List.getElem_mem hkl)
    have hkb : k < (bitsN offs.length n).length := by omega
    have hbg := bitsN_get offs.length n k hkb
    have hset := setL_snoc (offs.take k) (((bitsN offs.length n).take k).map Value.bool) xs offs[k] (Value.bool (bitsN offs.length n)[k]) (by rw [List.length_take, List.length_map, List.length_take]; omega)
    rw [← List.take_succ_eq_append_getElem hkl] at hset
    have hmt : ((bitsN offs.length n).take k).map Value.bool ++ [Value.bool (bitsN offs.length n)[k]] = ((bitsN offs.length n).take (k + 1)).map Value.bool := by
      rw [List.take_succ_eq_append_getElem hkb, List.map_append]; rfl
    rw [hmt, hbg] at hset
    have hsl := setL_len (offs.take k) (((bitsN offs.length n).take k).map Value.bool) xs
    generalize setL xs (offs.take k) (((bitsN offs.length n).take k).map Value.bool) = ys at hS hset hsl
    have hmod : n / 2 ^ k % 2 = 0 ∨ n / 2 ^ k % 2 = 1 := by omega
    have hsh := shr_u n k (by omega)
    have hdl : n / 2 ^ k ≤ n := Nat.div_le_self _ _
    have had := and_one (n / 2 ^ k) (by omega)
    generalize offs[k] = o at hck hox hset
    generalize n / 2 ^ k = q at hset hmod hsh hdl had
    repeat (first | refine SemW.run tblOk ?_ | refine jA (by omega) ?_ | refine jB (by omega) ?_ | refine jC (by omega) ?_ | refine jD (by omega) ?_ | refine jE rfl ?_ | refine jF (by omega) ?_ | (refine jG ?_; first | with_reducible (first | refine jH ?_ | refine jI ?_ | refine jJ ?_ | refine jK ?_ | refine jL ?_) | refine jM (by omega) ?_ | refine jN (by omega) ?_ | with_reducible refine jM rfl ?_ | refine jM (by assumption) ?_ | refine jN (by assumption) ?_ | refine jM (by decide) ?_ | refine jN (by decide) ?_) | refine jF (ptr_ok tblOk rfl rfl) ?_ | refine jO (fun _ => by kernel_rfl) ?_ | refine jF (by decide) ?_)
    refine hS.ldOld hbT (by simpa using hck) ?_
    repeat (first | refine SemW.run tblOk ?_ | refine jA (by omega) ?_ | refine jB (by omega) ?_ | refine jC (by omega) ?_ | refine jD (by omega) ?_ | refine jE rfl ?_ | refine jF (by omega) ?_ | (refine jG ?_; first | with_reducible (first | refine jH ?_ | refine jI ?_ | refine jJ ?_ | refine jK ?_ | refine jL ?_) | refine jM (by omega) ?_ | refine jN (by omega) ?_ | with_reducible refine jM rfl ?_ | refine jM (by assumption) ?_ | refine jN (by assumption) ?_ | refine jM (by decide) ?_ | refine jN (by decide) ?_) | refine jF (ptr_ok tblOk rfl rfl) ?_ | refine jO (fun _ => by kernel_rfl) ?_ | refine jF (by decide) ?_)
    rw [hsh]
    have hbe : decide (((q % 2 : Nat) : Int) = 1) = decide (q % 2 = 1) := by
      rw [decide_eq_decide]; omega
    refine hS.stI rfl (by omega) ?_
    intro w4 hS
    rw [had, hbe] at hS
    have hS : St w [b, rr, rb] (tgH b (ys.set o (Value.bool (decide (q % 2 = 1)))) ty rr rb s1) w4 := hS
    repeat (first | refine SemW.run tblOk ?_ | refine jA (by omega) ?_ | refine jB (by omega) ?_ | refine jC (by omega) ?_ | refine jD (by omega) ?_ | refine jE rfl ?_ | refine jF (by omega) ?_ | (refine jG ?_; first | with_reducible (first | refine jH ?_ | refine jI ?_ | refine jJ ?_ | refine jK ?_ | refine jL ?_) | refine jM (by omega) ?_ | refine jN (by omega) ?_ | with_reducible refine jM rfl ?_ | refine jM (by assumption) ?_ | refine jN (by assumption) ?_ | refine jM (by decide) ?_ | refine jN (by decide) ?_) | refine jF (ptr_ok tblOk rfl rfl) ?_ | refine jO (fun _ => by kernel_rfl) ?_ | refine jF (by decide) ?_)
    exact ⟨k + 1, ⟨rfl, rfl, rfl, rfl, trivial⟩, ⟨by omega, by rw [hset]; exact hS⟩, by omega⟩
  · have hke : k = offs.length := by omega
    have e2 : (bitsN offs.length n).take offs.length = bitsN offs.length n := List.take_of_length_le (by omega)
    subst hke
    rw [List.take_length, e2] at hS
    repeat (first | refine SemW.run tblOk ?_ | refine jA (by omega) ?_ | refine jB (by omega) ?_ | refine jC (by omega) ?_ | refine jD (by omega) ?_ | refine jE rfl ?_ | refine jF (by omega) ?_ | (refine jG ?_; first | with_reducible (first | refine jH ?_ | refine jI ?_ | refine jJ ?_ | refine jK ?_ | refine jL ?_) | refine jM (by omega) ?_ | refine jN (by omega) ?_ | with_reducible refine jM rfl ?_ | refine jM (by assumption) ?_ | refine jN (by assumption) ?_ | refine jM (by decide) ?_ | refine jN (by decide) ?_) | refine jF (ptr_ok tblOk rfl rfl) ?_ | refine jO (fun _ => by kernel_rfl) ?_ | refine jF (by decide) ?_)
    exact hS
set_option maxHeartbeats 1000000 in
theorem rtext_spec {w : World} {b rr rb o : Nat} {xs : List Value} {ty : TypeId} {s : RB} (hh : Holds (tgH b xs ty rr rb s) w) (ht : s.t.length ≤ 70368744177664) (ho : o < xs.length) :
    Cl Tryz.prog f_wire_reader_text [ptr rr, ptrTo b o] w fun _ w' => St w [b, rr, rb] (tgH b (xs.set o (Str (wText s).1)) ty rr rb (wText s).2) w' := by
  have hS : St w [b, rr, rb] [(b, .cells ⟨xs⟩ ty (0, 0)), (rr, wrdC rb s.bad), (rb, rdC s.t)] w := St.enter hh
  refine en_wire_reader_text rfl ?_
  repeat (first | refine SemW.run tblOk ?_ | refine jA (by omega) ?_ | refine jB (by omega) ?_ | refine jC (by omega) ?_ | refine jD (by omega) ?_ | refine jE rfl ?_ | refine jF (by omega) ?_ | (refine jG ?_; first | with_reducible (first | refine jH ?_ | refine jI ?_ | refine jJ ?_ | refine jK ?_ | refine jL ?_) | refine jM (by omega) ?_ | refine jN (by omega) ?_ | with_reducible refine jM rfl ?_ | refine jM (by assumption) ?_ | refine jN (by assumption) ?_ | refine jM (by decide) ?_ | refine jN (by decide) ?_) | refine jF (ptr_ok tblOk rfl rfl) ?_ | refine jO (fun _ => by kernel_rfl) ?_ | refine jF (by decide) ?_ | refine hS.ld rfl ?_ | refine hS.ldn rfl ?_ | (refine hS.st rfl rfl ?_; intro _ hS))
  refine Cl.mono (RText_spec (hS.part (L := [(rb, rdC s.t)])) ht) ?_
  rintro _ w1 ⟨rfl, hS'⟩
  have hS := hS.call (L := [(rb, rdC s.t)]) hS'
  have hS : St w [b, rr, rb] [(b, .cells ⟨xs⟩ ty (0, 0)), (rr, .cells ⟨[ptr rb, .bool s.bad]⟩ T_wire_reader (0, 0)), (rb, .cells ⟨[Str (textO s.t).2.2]⟩ T_pack_Reader (0, 0))] w1 := hS
  obtain ⟨t, bad⟩ := s
  have he := textO_err t
  unfold wText
  simp only at hS he ⊢
  generalize textO t = x at hS he ⊢
  obtain ⟨z, er, r⟩ := x
  simp only at hS he ⊢
  repeat (first | refine SemW.run tblOk ?_ | refine jA (by omega) ?_ | refine jB (by omega) ?_ | refine jC (by omega) ?_ | refine jD (by omega) ?_ | refine jE rfl ?_ | refine jF (by omega) ?_ | (refine jG ?_; first | with_reducible (first | refine jH ?_ | refine jI ?_ | refine jJ ?_ | refine jK ?_ | refine jL ?_) | refine jM (by omega) ?_ | refine jN (by omega) ?_ | with_reducible refine jM rfl ?_ | refine jM (by assumption) ?_ | refine jN (by assumption) ?_ | refine jM (by decide) ?_ | refine jN (by decide) ?_) | refine jF (ptr_ok tblOk rfl rfl) ?_ | refine jO (fun _ => by kernel_rfl) ?_ | refine jF (by decide) ?_ | refine hS.ld rfl ?_ | refine hS.ldn rfl ?_ | (refine hS.st rfl rfl ?_; intro _ hS))
  refine hS.stI rfl ho ?_
  intro w2 hS
  have hS : St w [b, rr, rb] [(b, .cells ⟨xs.set o (Str z)⟩ ty (0, 0)), (rr, .cells ⟨[ptr rb, .bool bad]⟩ T_wire_reader (0, 0)), (rb, .cells ⟨[Str r]⟩ T_pack_Reader (0, 0))] w2 := hS
  cases bad with
  | true =>
    repeat (first | refine SemW.run tblOk ?_ | refine jA (by omega) ?_ | refine jB (by omega) ?_ | refine jC (by omega) ?_ | refine jD (by omega) ?_ | refine jE rfl ?_ | refine jF (by omega) ?_ | (refine jG ?_; first | with_reducible (first | refine jH ?_ | refine jI ?_ | refine jJ ?_ | refine jK ?_ | refine jL ?_) | refine jM (by omega) ?_ | refine jN (by omega) ?_ | with_reducible refine jM rfl ?_ | refine jM (by assumption) ?_ | refine jN (by assumption) ?_ | refine jM (by decide) ?_ | refine jN (by decide) ?_) | refine jF (ptr_ok tblOk rfl rfl) ?_ | refine jO (fun _ => by kernel_rfl) ?_ | refine jF (by decide) ?_ | refine hS.ld rfl ?_ | refine hS.ldn rfl ?_ | (refine hS.st rfl rfl ?_; intro _ hS))
    exact hS
  | false =>
    rcases he with rfl | rfl
    · repeat (first | refine SemW.run tblOk ?_ | refine jA (by omega) ?_ | refine jB (by omega) ?_ | refine jC (by omega) ?_ | refine jD (by omega) ?_ | refine jE rfl ?_ | refine jF (by omega) ?_ | (refine jG ?_; first | with_reducible (first | refine jH ?_ | refine jI ?_ | refine jJ ?_ | refine jK ?_ | refine jL ?_) | refine jM (by omega) ?_ | refine jN (by omega) ?_ | with_reducible refine jM rfl ?_ | refine jM (by assumption) ?_ | refine jN (by assumption) ?_ | refine jM (by decide) ?_ | refine jN (by decide) ?_) | refine jF (ptr_ok tblOk rfl rfl) ?_ | refine jO (fun _ => by kernel_rfl) ?_ | refine jF (by decide) ?_ | refine hS.ld rfl ?_ | refine hS.ldn rfl ?_ | (refine hS.st rfl rfl ?_; intro _ hS))
      exact hS
    · repeat (first | refine SemW.run tblOk ?_ | refine jA (by omega) ?_ | refine jB (by omega) ?_ | refine jC (by omega) ?_ | refine jD (by omega) ?_ | refine jE rfl ?_ | refine jF (by omega) ?_ | (refine jG ?_; first | with_reducible (first | refine jH ?_ | refine jI ?_ | refine jJ ?_ | refine jK ?_ | refine jL ?_) | refine jM (by omega) ?_ | refine jN (by omega) ?_ | with_reducible refine jM rfl ?_ | refine jM (by assumption) ?_ | refine jN (by assumption) ?_ | refine jM (by decide) ?_ | refine jN (by decide) ?_) | refine jF (ptr_ok tblOk rfl rfl) ?_ | refine jO (fun _ => by kernel_rfl) ?_ | refine jF (by decide) ?_ | refine hS.ld rfl ?_ | refine hS.ldn rfl ?_ | (refine hS.st rfl rfl ?_; intro _ hS))
      exact hS
set_option maxHeartbeats 1000000 in
theorem rletter_spec {w : World} {b rr rb o : Nat} {xs : List Value} {ty : TypeId} {s : RB} (hh : Holds (tgH b xs ty rr rb s) w) (ht : s.t.length ≤ 70368744177664) (ho : o < xs.length) :
    Cl Tryz.prog f_wire_reader_letter [ptr rr, ptrTo b o] w fun _ w' => St w [b, rr, rb] (tgH b (xs.set o (.int .u8 (wNum 255 s).1)) ty rr rb (wNum 255 s).2) w' := by
  have hS : St w [b, rr, rb] [(b, .cells ⟨xs⟩ ty (0, 0)), (rr, wrdC rb s.bad), (rb, rdC s.t)] w := St.enter hh
  refine en_wire_reader_letter rfl ?_
  repeat (first | refine SemW.run tblOk ?_ | refine jA (by omega) ?_ | refine jB (by omega) ?_ | refine jC (by omega) ?_ | refine jD (by omega) ?_ | refine jE rfl ?_ | refine jF (by omega) ?_ | (refine jG ?_; first | with_reducible (first | refine jH ?_ | refine jI ?_ | refine jJ ?_ | refine jK ?_ | refine jL ?_) | refine jM (by omega) ?_ | refine jN (by omega) ?_ | with_reducible refine jM rfl ?_ | refine jM (by assumption) ?_ | refine jN (by assumption) ?_ | refine jM (by decide) ?_ | refine jN (by decide) ?_) | refine jF (ptr_ok tblOk rfl rfl) ?_ | refine jO (fun _ => by kernel_rfl) ?_ | refine jF (by decide) ?_)
  refine Cl.mono (rnum_spec (s := s) (most := 255) (hS.part (L := rdH rr rb s)) ht (by omega)) ?_
  rintro _ w1 ⟨rfl, hS'⟩
  have hS := hS.call (L := rdH rr rb s) hS'
  have hS : St w [b, rr, rb] (tgH b xs ty rr rb (wNum 255 s).2) w1 := hS
  have hwn : (wNum 255 s).1 ≤ 255 := by
    unfold wNum
    split
    · exact Nat.zero_le _
    · next h => exact Nat.le_of_not_lt (not_or.1 h).2
  generalize wNum 255 s = y at hS hwn ⊢
  obtain ⟨n, s1⟩ := y
  simp only at hS hwn ⊢
  repeat (first | refine SemW.run tblOk ?_ | refine jA (by omega) ?_ | refine jB (by omega) ?_ | refine jC (by omega) ?_ | refine jD (by omega) ?_ | refine jE rfl ?_ | refine jF (by omega) ?_ | (refine jG ?_; first | with_reducible (first | refine jH ?_ | refine jI ?_ | refine jJ ?_ | refine jK ?_ | refine jL ?_) | refine jM (by omega) ?_ | refine jN (by omega) ?_ | with_reducible refine jM rfl ?_ | refine jM (by assumption) ?_ | refine jN (by assumption) ?_ | refine jM (by decide) ?_ | refine jN (by decide) ?_) | refine jF (ptr_ok tblOk rfl rfl) ?_ | refine jO (fun _ => by kernel_rfl) ?_ | refine jF (by decide) ?_)
  refine hS.stI rfl ho ?_
  intro w2 hS
  repeat (first | refine SemW.run tblOk ?_ | refine jA (by omega) ?_ | refine jB (by omega) ?_ | refine jC (by omega) ?_ | refine jD (by omega) ?_ | refine jE rfl ?_ | refine jF (by omega) ?_ | (refine jG ?_; first | with_reducible (first | refine jH ?_ | refine jI ?_ | refine jJ ?_ | refine jK ?_ | refine jL ?_) | refine jM (by omega) ?_ | refine jN (by omega) ?_ | with_reducible refine jM rfl ?_ | refine jM (by assumption) ?_ | refine jN (by assumption) ?_ | refine jM (by decide) ?_ | refine jN (by decide) ?_) | refine jF (ptr_ok tblOk rfl rfl) ?_ | refine jO (fun _ => by kernel_rfl) ?_ | refine jF (by decide) ?_)
  exact hS
theorem RLeft_spec {w : World} {b : Nat} {t : Bytes} (hh : Holds [(b, rdC t)] w) (ht : t.length ≤ 70368744177664) : Cl Tryz.prog f_pack_Reader_Left [ptr b] w fun v w' => v = .int .i64 t.length ∧ St w [] [] w' := by
  have hS : St w [b] [(b, .cells ⟨[Str t]⟩ T_pack_Reader (0, 0))] w := St.enter hh
  have hS0 := St.start w
  refine en_pack_Reader_Left rfl ?_
  repeat (first | refine SemW.run tblOk ?_ | refine jA (by omega) ?_ | refine jB (by omega) ?_ | refine jC (by omega) ?_ | refine jD (by omega) ?_ | refine jE rfl ?_ | refine jF (by omega) ?_ | (refine jG ?_; first | with_reducible (first | refine jH ?_ | refine jI ?_ | refine jJ ?_ | refine jK ?_ | refine jL ?_) | refine jM (by omega) ?_ | refine jN (by omega) ?_ | with_reducible refine jM rfl ?_ | refine jM (by assumption) ?_ | refine jN (by assumption) ?_ | refine jM (by decide) ?_ | refine jN (by decide) ?_) | refine jF (ptr_ok tblOk rfl rfl) ?_ | refine jO (fun _ => by kernel_rfl) ?_ | refine jF (by decide) ?_ | refine hS.ld rfl ?_ | refine hS.ldn rfl ?_ | (refine hS.st rfl rfl ?_; intro _ hS))
  exact ⟨rfl, hS0⟩
theorem Holds.part' {L H : Heap} {F : Heap → Heap} {w : World} (hh : Holds H w) [hc : Chunk H L F] : Holds L w := (St.enter hh).part (L := L)
set_option maxHeartbeats 1000000 in
theorem rcount_spec {w : World} {rr rb : Nat} {s : RB} (hh : Holds (rdH rr rb s) w) (ht : s.t.length ≤ 70368744177664) (z : Int) :
    Cl Tryz.prog f_wire_reader_count [ptr rr, .int .i64 z] w fun v w' => v = .int .i64 (wNum s.t.length s).1 ∧ St w [rr, rb] (rdH rr rb (wNum s.t.length s).2) w' := by
  have hS : St w [rr, rb] [(rr, wrdC rb s.bad), (rb, rdC s.t)] w := St.enter hh
  refine en_wire_reader_count rfl ?_
  repeat (first | refine SemW.run tblOk ?_ | refine jA (by omega) ?_ | refine jB (by omega) ?_ | refine jC (by omega) ?_ | refine jD (by omega) ?_ | refine jE rfl ?_ | refine jF (by omega) ?_ | (refine jG ?_; first | with_reducible (first | refine jH ?_ | refine jI ?_ | refine jJ ?_ | refine jK ?_ | refine jL ?_) | refine jM (by omega) ?_ | refine jN (by omega) ?_ | with_reducible refine jM rfl ?_ | refine jM (by assumption) ?_ | refine jN (by assumption) ?_ | refine jM (by decide) ?_ | refine jN (by decide) ?_) | refine jF (ptr_ok tblOk rfl rfl) ?_ | refine jO (fun _ => by kernel_rfl) ?_ | refine jF (by decide) ?_ | refine hS.ld rfl ?_ | refine hS.ldn rfl ?_ | (refine hS.st rfl rfl ?_; intro _ hS))
  refine Cl.mono (RLeft_spec (hS.part (L := [(rb, rdC s.t)])) ht) ?_
  rintro _ w1 ⟨rfl, hS'⟩
  have hS := hS.call0 hS'
  repeat (first | refine SemW.run tblOk ?_ | refine jA (by omega) ?_ | refine jB (by omega) ?_ | refine jC (by omega) ?_ | refine jD (by omega) ?_ | refine jE rfl ?_ | refine jF (by omega) ?_ | (refine jG ?_; first | with_reducible (first | refine jH ?_ | refine jI ?_ | refine jJ ?_ | refine jK ?_ | refine jL ?_) | refine jM (by omega) ?_ | refine jN (by omega) ?_ | with_reducible refine jM rfl ?_ | refine jM (by assumption) ?_ | refine jN (by assumption) ?_ | refine jM (by decide) ?_ | refine jN (by decide) ?_) | refine jF (ptr_ok tblOk rfl rfl) ?_ | refine jO (fun _ => by kernel_rfl) ?_ | refine jF (by decide) ?_ | refine hS.ld rfl ?_ | refine hS.ldn rfl ?_ | (refine hS.st rfl rfl ?_; intro _ hS))
  refine Cl.mono (rnum_spec (s := s) (most := s.t.length) (hS.part (L := rdH rr rb s)) ht (by omega)) ?_
  rintro _ w2 ⟨rfl, hS'⟩
  have hS := hS.call (L := rdH rr rb s) hS'
  have hwn : (wNum s.t.length s).1 ≤ s.t.length := by
    unfold wNum
    split
    · exact Nat.zero_le _
    · next h => exact Nat.le_of_not_lt (not_or.1 h).2
  repeat (first | refine SemW.run tblOk ?_ | refine jA (by omega) ?_ | refine jB (by omega) ?_ | refine jC (by omega) ?_ | refine jD (by omega) ?_ | refine jE rfl ?_ | refine jF (by omega) ?_ | (refine jG ?_; first | with_reducible (first | refine jH ?_ | refine jI ?_ | refine jJ ?_ | refine jK ?_ | refine jL ?_) | refine jM (by omega) ?_ | refine jN (by omega) ?_ | with_reducible refine jM rfl ?_ | refine jM (by assumption) ?_ | refine jN (by assumption) ?_ | refine jM (by decide) ?_ | refine jN (by decide) ?_) | refine jF (ptr_ok tblOk rfl rfl) ?_ | refine jO (fun _ => by kernel_rfl) ?_ | refine jF (by decide) ?_)
  exact ⟨rfl, hS⟩
end Go.Proofs.YthpmmfapolcaiaaGreatDoor

/- tarmacref22.ReadPax. -/
namespace Go.Proofs.YthpmmfapolcaiaaGreatDoor
open Go Go.Eng Go.Proofs
structure LI where
  k : Nat
  l : List Int
  s : RB
theorem wInts_step {n : Nat} {l : List Int} {s : RB} {X : List Int × RB} (hl : l.length < n) (hx : (l ++ (wInts (n - l.length) s).1, (wInts (n - l.length) s).2) = X) :
    ((l ++ [(rbInt s).1]) ++ (wInts (n - (l ++ [(rbInt s).1]).length) (rbInt s).2).1, (wInts (n - (l ++ [(rbInt s).1]).length) (rbInt s).2).2) = X := by
  rw [show n - l.length = (n - (l ++ [(rbInt s).1]).length) + 1 by simp; omega] at hx
  rw [← hx]
  simp [wInts]
theorem set_row (l : List Int) (x : Int) (n : Nat) (h : l.length < n) : (l.map intV ++ List.replicate (n - l.length) (intV 0)).set l.length (intV x) = (l ++ [x]).map intV ++ List.replicate (n - (l ++ [x]).length) (intV 0) := by
  rw [List.set_append_right _ _ (by simp)]
  rw [show n - l.length = (n - (l ++ [x]).length) + 1 by simp; omega, List.replicate_succ]
  simp
theorem rbInt_t (s : RB) : (rbInt s).2.t.length ≤ s.t.length := intO_len s.t
theorem rbNum_t (s : RB) : (rbNum s).2.t.length ≤ s.t.length := numO_len s.t
theorem lst6' {l : List Int} (h : l.length = 6) : ∃ a b c d e f, l = [a, b, c, d, e, f] := ⟨_, _, _, _, _, _, lst6 0 h⟩
theorem bits4 (n : Nat) : bitsN 4 n = [decide (n % 2 = 1), decide (n / 2 % 2 = 1), decide (n / 4 % 2 = 1), decide (n / 8 % 2 = 1)] := by
  simp only [bitsN, Nat.div_div_eq_div_mul]
theorem dmod2 (a : Nat) : decide (((a : Nat) : Int).tmod 2 = 1) = decide (a % 2 = 1) := by
  have : ((a : Int)).tmod 2 = ((a % 2 : Nat) : Int) := tmodN a 2
  rw [this, decide_eq_decide]
  omega
theorem bits4' (n : Nat) : bitsN 4 n = [decide (((n : Nat) : Int).tmod 2 = 1), decide (((n / 2 : Nat) : Int).tmod 2 = 1), decide (((n / 4 : Nat) : Int).tmod 2 = 1), decide (((n / 8 : Nat) : Int).tmod 2 = 1)] := by
  rw [dmod2, dmod2, dmod2, dmod2]; exact bits4 n
theorem max36 (e1 e2 : Int) (h1 : e1 = 0 ∨ e1 = 1) (h2 : e2 = 0 ∨ e2 = 1) (b : Bool) : mxI (mxI 36 e1) e2 = 0 ↔ (b || true) = false := by
  unfold mxI
  rcases h1 with rfl | rfl <;> rcases h2 with rfl | rfl <;> simp
theorem maxbb (e1 e2 : Int) (h1 : e1 = 0 ∨ e1 = 1) (h2 : e2 = 0 ∨ e2 = 1) (b : Bool) : mxI (mxI (eN b) e1) e2 = 0 ↔ ((b || decide (e1 ≠ 0) || decide (e2 ≠ 0)) || false) = false := by
  unfold mxI eN
  rcases h1 with rfl | rfl <;> rcases h2 with rfl | rfl <;> cases b <;> simp
/-- What a reading of a passenger answers. -/
def PaxPost (y : PaxM × RB) (rb : Nat) (v : Value) (w w' : World) : Prop := ∃ e : Int, v = .tuple ⟨[.agg ⟨paxC y.1⟩, .int .i64 e]⟩ ∧ (e = 0 ↔ y.2.bad = false) ∧ St w [rb] [(rb, rdC' y.2.t)] w'
set_option maxRecDepth 4000 in
set_option maxHeartbeats 8000000 in
theorem ReadPax_spec {w : World} {rb : Nat} {t : Bytes} (hh : Holds [(rb, rdC' t)] w) (ht : t.length ≤ 70368744177664) (hE : ErrVars w) :
    Cl Tryz.prog f_tarmacref22_ReadPax [ptr rb] w fun v w' => PaxPost (lPax t 0) rb v w w' := by
  have hS : St w [rb] [(rb, rdC' t)] w := St.enter hh
  refine en_tarmacref22_ReadPax rfl ?_
  repeat (first | refine SemW.run tblOk ?_ | refine jA (by omega) ?_ | refine jB (by omega) ?_ | refine jC (by omega) ?_ | refine jD (by omega) ?_ | refine jE rfl ?_ | refine jF (by omega) ?_ | (refine jG ?_; first | with_reducible (first | refine jH ?_ | refine jI ?_ | refine jJ ?_ | refine jK ?_ | refine jL ?_) | refine jM (by omega) ?_ | refine jN (by omega) ?_ | with_reducible refine jM rfl ?_ | refine jM (by assumption) ?_ | refine jN (by assumption) ?_ | refine jM (by decide) ?_ | refine jN (by decide) ?_) | refine jF (ptr_ok tblOk rfl rfl) ?_ | refine jO (fun _ => by kernel_rfl) ?_ | refine jF (by decide) ?_ | refine hS.ld rfl ?_ | refine hS.ldn rfl ?_ | (refine hS.st rfl rfl ?_; intro _ hS))
  refine hS.al ?_
  intro b2 w1 _ hS
  repeat (first | refine SemW.run tblOk ?_ | refine jA (by omega) ?_ | refine jB (by omega) ?_ | refine jC (by omega) ?_ | refine jD (by omega) ?_ | refine jE rfl ?_ | refine jF (by omega) ?_ | (refine jG ?_; first | with_reducible (first | refine jH ?_ | refine jI ?_ | refine jJ ?_ | refine jK ?_ | refine jL ?_) | refine jM (by omega) ?_ | refine jN (by omega) ?_ | with_reducible refine jM rfl ?_ | refine jM (by assumption) ?_ | refine jN (by assumption) ?_ | refine jM (by decide) ?_ | refine jN (by decide) ?_) | refine jF (ptr_ok tblOk rfl rfl) ?_ | refine jO (fun _ => by kernel_rfl) ?_ | refine jF (by decide) ?_ | refine hS.ld rfl ?_ | refine hS.ldn rfl ?_ | (refine hS.st rfl rfl ?_; intro _ hS))
  refine hS.al ?_
  intro b4 w2 _ hS
  repeat (first | refine SemW.run tblOk ?_ | refine jA (by omega) ?_ | refine jB (by omega) ?_ | refine jC (by omega) ?_ | refine jD (by omega) ?_ | refine jE rfl ?_ | refine jF (by omega) ?_ | (refine jG ?_; first | with_reducible (first | refine jH ?_ | refine jI ?_ | refine jJ ?_ | refine jK ?_ | refine jL ?_) | refine jM (by omega) ?_ | refine jN (by omega) ?_ | with_reducible refine jM rfl ?_ | refine jM (by assumption) ?_ | refine jN (by assumption) ?_ | refine jM (by decide) ?_ | refine jN (by decide) ?_) | refine jF (ptr_ok tblOk rfl rfl) ?_ | refine jO (fun _ => by kernel_rfl) ?_ | refine jF (by decide) ?_ | refine hS.ld rfl ?_ | refine hS.ldn rfl ?_ | (refine hS.st rfl rfl ?_; intro _ hS))
  refine SemW.loop (fun x : LI => [(0, ptr rb), (2, ptr b2), (3, .int .i64 0), (4, ptr b4), (5, .int .i64 (eN x.s.bad)), (16, .int .i64 x.k)])
    (fun x w' => ((x.l.length = x.k ∧ x.l.length ≤ 6) ∧ (x.l ++ (wInts (6 - x.l.length) x.s).1, (wInts (6 - x.l.length) x.s).2) = wInts 6 ⟨t, false⟩ ∧ x.s.t.length ≤ t.length) ∧ St w [rb] ((rb, rdC' x.s.t) :: (b4, .cells ⟨x.l.map intV ++ List.replicate (6 - x.l.length) (intV 0)⟩ T_6_int (0, 0)) :: [(b2, .cells ⟨paxC ⟨0, 0, 0, false, false, false, false, 0, 0, 0, 0, 0, 0⟩⟩ T_api_Pax (0, 0))]) w') (fun x => 6 - x.k) ⟨0, [], ⟨t, false⟩⟩
    ⟨rfl, rfl, rfl, rfl, rfl, rfl, trivial⟩ ⟨⟨⟨rfl, Nat.zero_le _⟩, rfl, Nat.le_refl _⟩, ?_⟩ ?_
  · have hS : St w [rb] ([(b4, _), (b2, _)] ++ [(rb, _)]) _ := hS
    exact hS.perm List.perm_append_comm
  clear hS
  rintro ⟨k, l, s⟩ w3 ⟨⟨⟨hlk, hl6⟩, hx, hst⟩, hS⟩
  simp only at hlk hl6 hx hst hS ⊢
  by_cases hl : l.length < 6
  · have hx2 := wInts_step hl hx
    have hst2 := rbInt_t s
    have hset := set_row l (rbInt s).1 6 hl
    have he := intO_e s.t
    repeat (first | refine SemW.run tblOk ?_ | refine jA (by omega) ?_ | refine jB (by omega) ?_ | refine jC (by omega) ?_ | refine jD (by omega) ?_ | refine jE rfl ?_ | refine jF (by omega) ?_ | (refine jG ?_; first | with_reducible (first | refine jH ?_ | refine jI ?_ | refine jJ ?_ | refine jK ?_ | refine jL ?_) | refine jM (by omega) ?_ | refine jN (by omega) ?_ | with_reducible refine jM rfl ?_ | refine jM (by assumption) ?_ | refine jN (by assumption) ?_ | refine jM (by decide) ?_ | refine jN (by decide) ?_) | refine jF (ptr_ok tblOk rfl rfl) ?_ | refine jO (fun _ => by kernel_rfl) ?_ | refine jF (by decide) ?_ | refine hS.ld rfl ?_ | refine hS.ldn rfl ?_ | (refine hS.st rfl rfl ?_; intro _ hS))
    refine Cl.mono (RIntE_spec (t := s.t) (hS.part (L := [(rb, rdC' s.t)])) (by omega)) ?_
    rintro _ w4 ⟨rfl, hS'⟩
    have hS := hS.call (L := [(rb, rdC' s.t)]) hS'
    repeat (first | refine SemW.run tblOk ?_ | refine jA (by omega) ?_ | refine jB (by omega) ?_ | refine jC (by omega) ?_ | refine jD (by omega) ?_ | refine jE rfl ?_ | refine jF (by omega) ?_ | (refine jG ?_; first | with_reducible (first | refine jH ?_ | refine jI ?_ | refine jJ ?_ | refine jK ?_ | refine jL ?_) | refine jM (by omega) ?_ | refine jN (by omega) ?_ | with_reducible refine jM rfl ?_ | refine jM (by assumption) ?_ | refine jN (by assumption) ?_ | refine jM (by decide) ?_ | refine jN (by decide) ?_) | refine jF (ptr_ok tblOk rfl rfl) ?_ | refine jO (fun _ => by kernel_rfl) ?_ | refine jF (by decide) ?_ | refine hS.ld rfl ?_ | refine hS.ldn rfl ?_ | (refine hS.st rfl rfl ?_; intro _ hS))
    refine hS.stI rfl (by simp; omega) ?_
    intro _ hS
    rw [show 0 + (k : Int).toNat * 1 = l.length by simp [hlk]] at hS
    repeat (first | refine SemW.run tblOk ?_ | refine jA (by omega) ?_ | refine jB (by omega) ?_ | refine jC (by omega) ?_ | refine jD (by omega) ?_ | refine jE rfl ?_ | refine jF (by omega) ?_ | (refine jG ?_; first | with_reducible (first | refine jH ?_ | refine jI ?_ | refine jJ ?_ | refine jK ?_ | refine jL ?_) | refine jM (by omega) ?_ | refine jN (by omega) ?_ | with_reducible refine jM rfl ?_ | refine jM (by assumption) ?_ | refine jN (by assumption) ?_ | refine jM (by decide) ?_ | refine jN (by decide) ?_) | refine jF (ptr_ok tblOk rfl rfl) ?_ | refine jO (fun _ => by kernel_rfl) ?_ | refine jF (by decide) ?_ | refine hS.ld rfl ?_ | refine hS.ldn rfl ?_ | (refine hS.st rfl rfl ?_; intro _ hS))
    rw [eN_max' s.bad _ he]
    refine ⟨⟨k + 1, l ++ [(rbInt s).1], (rbInt s).2⟩, ⟨rfl, rfl, rfl, rfl, rfl, rfl, trivial⟩, ⟨⟨⟨by simp [hlk], by simp; omega⟩, hx2, by simp only; omega⟩, ?_⟩, by simp only; omega⟩
    rw [← hset]
    exact hS
  · have hl6' : l.length = 6 := by omega
    rw [hl6'] at hx
    have hx : (l, s) = wInts 6 ⟨t, false⟩ := by simpa [wInts] using hx
    obtain ⟨i0, i1, i2, i3, i4, i5, rfl⟩ := lst6' hl6'
    have hn := rbNum_t s
    have hne := numO_e s.t
    repeat (first | refine SemW.run tblOk ?_ | refine jA (by omega) ?_ | refine jB (by omega) ?_ | refine jC (by omega) ?_ | refine jD (by omega) ?_ | refine jE rfl ?_ | refine jF (by omega) ?_ | (refine jG ?_; first | with_reducible (first | refine jH ?_ | refine jI ?_ | refine jJ ?_ | refine jK ?_ | refine jL ?_) | refine jM (by omega) ?_ | refine jN (by omega) ?_ | with_reducible refine jM rfl ?_ | refine jM (by assumption) ?_ | refine jN (by assumption) ?_ | refine jM (by decide) ?_ | refine jN (by decide) ?_) | refine jF (ptr_ok tblOk rfl rfl) ?_ | refine jO (fun _ => by kernel_rfl) ?_ | refine jF (by decide) ?_ | refine hS.ld rfl ?_ | refine hS.ldn rfl ?_ | (refine hS.st rfl rfl ?_; intro _ hS))
    refine Cl.mono (RNumE_spec (t := s.t) (hS.part (L := [(rb, rdC' s.t)])) (by omega)) ?_
    rintro _ w4 ⟨rfl, hS'⟩
    have hS := hS.call (L := [(rb, rdC' s.t)]) hS'
    repeat (first | refine SemW.run tblOk ?_ | refine jA (by omega) ?_ | refine jB (by omega) ?_ | refine jC (by omega) ?_ | refine jD (by omega) ?_ | refine jE rfl ?_ | refine jF (by omega) ?_ | (refine jG ?_; first | with_reducible (first | refine jH ?_ | refine jI ?_ | refine jJ ?_ | refine jK ?_ | refine jL ?_) | refine jM (by omega) ?_ | refine jN (by omega) ?_ | with_reducible refine jM rfl ?_ | refine jM (by assumption) ?_ | refine jN (by assumption) ?_ | refine jM (by decide) ?_ | refine jN (by decide) ?_) | refine jF (ptr_ok tblOk rfl rfl) ?_ | refine jO (fun _ => by kernel_rfl) ?_ | refine jF (by decide) ?_ | refine hS.ld rfl ?_ | refine hS.ldn rfl ?_ | (refine hS.st rfl rfl ?_; intro _ hS))
    have hn : (numO s.t).2.2.length ≤ s.t.length := hn
    refine Cl.mono (RTextE_spec (t := (numO s.t).2.2) (hS.part (L := [(rb, rdC' (numO s.t).2.2)])) (by omega)) ?_
    rintro _ w5 ⟨rfl, hS'⟩
    have hS := hS.call (L := [(rb, rdC' (numO s.t).2.2)]) hS'
    repeat (first | refine SemW.run tblOk ?_ | refine jA (by omega) ?_ | refine jB (by omega) ?_ | refine jC (by omega) ?_ | refine jD (by omega) ?_ | refine jE rfl ?_ | refine jF (by omega) ?_ | (refine jG ?_; first | with_reducible (first | refine jH ?_ | refine jI ?_ | refine jJ ?_ | refine jK ?_ | refine jL ?_) | refine jM (by omega) ?_ | refine jN (by omega) ?_ | with_reducible refine jM rfl ?_ | refine jM (by assumption) ?_ | refine jN (by assumption) ?_ | refine jM (by decide) ?_ | refine jN (by decide) ?_) | refine jF (ptr_ok tblOk rfl rfl) ?_ | refine jO (fun _ => by kernel_rfl) ?_ | refine jF (by decide) ?_ | refine hS.ld rfl ?_ | refine hS.ldn rfl ?_ | (refine hS.st rfl rfl ?_; intro _ hS))
    have htx := textO_len (numO s.t).2.2
    have hte := textO_err (numO s.t).2.2
    have hlt := numO_lt s.t
    have hap := hE.apart (b := rb) (x := Str t) (l := []) (t := T_tarmacref01_Reader) (fz := (0, 0)) (hh.own (rb, _) (by simp)) (fun _ _ => nofun)
    refine Cl.mono (R13Parse_spec (s := (textO (numO s.t).2.2).1) (by omega) (hE.keep hS (by simp; exact fun h => hap.1 h.symm) (by simp; exact fun h => hap.2 h.symm))) ?_
    rintro _ w6 ⟨rfl, hS'⟩
    have hS := hS.call0 hS'
    have hLP : lPax t 0 = (⟨0, i0, i1, (bitsN 4 (numO s.t).1).getD 0 false, (bitsN 4 (numO s.t).1).getD 1 false, (bitsN 4 (numO s.t).1).getD 2 false, (bitsN 4 (numO s.t).1).getD 3 false, i2, i3, i4, i5, (parseO (textO (numO s.t).2.2).1).1, (parseO (textO (numO s.t).2.2).1).2.1⟩,
        ⟨(textO (numO s.t).2.2).2.2, (s.bad || decide ((numO s.t).2.1 ≠ 0) || decide ((textO (numO s.t).2.2).2.1 ≠ 0)) || (!(parseO (textO (numO s.t).2.2).1).2.2 && decide ((textO (numO s.t).2.2).1 ≠ []))⟩) := by
      unfold lPax tk
      rw [← hx]
      rfl
    rw [hLP, bits4']
    clear hLP
    generalize numO s.t = y at *
    obtain ⟨n, e1, t1⟩ := y
    simp only at *
    generalize textO t1 = z at *
    obtain ⟨x, e2, t2⟩ := z
    simp only at *
    generalize parseO x = q at *
    obtain ⟨pn, pc, ok⟩ := q
    simp only at *
    unfold seatAt
    have d2 : ((n : Int)).tdiv 2 = ((n / 2 : Nat) : Int) := tdivN n 2
    have d4 : ((n : Int)).tdiv 4 = ((n / 4 : Nat) : Int) := tdivN n 4
    have d8 : ((n : Int)).tdiv 8 = ((n / 8 : Nat) : Int) := tdivN n 8
    repeat (first | refine SemW.run tblOk ?_ | refine jA (by omega) ?_ | refine jB (by omega) ?_ | refine jC (by omega) ?_ | refine jD (by omega) ?_ | refine jE rfl ?_ | refine jF (by omega) ?_ | (refine jG ?_; first | with_reducible (first | refine jH ?_ | refine jI ?_ | refine jJ ?_ | refine jK ?_ | refine jL ?_) | refine jM (by omega) ?_ | refine jN (by omega) ?_ | with_reducible refine jM rfl ?_ | refine jM (by assumption) ?_ | refine jN (by assumption) ?_ | refine jM (by decide) ?_ | refine jN (by decide) ?_) | refine jF (ptr_ok tblOk rfl rfl) ?_ | refine jO (fun _ => by kernel_rfl) ?_ | refine jF (by decide) ?_ | refine hS.ld rfl ?_ | refine hS.ldn rfl ?_ | (refine hS.st rfl rfl ?_; intro _ hS))
    refine hS.al ?_
    intro b13 w7 _ hS
    have hS : St w [rb] ((b13, _) :: (rb, _) :: (b4, .cells ⟨[.int .i64 i0, .int .i64 i1, .int .i64 i2, .int .i64 i3, .int .i64 i4, .int .i64 i5]⟩ T_6_int (0, 0)) :: [(b2, _)]) _ := hS
    by_cases hok : ok = true
    · subst hok
      repeat (first | refine SemW.run tblOk ?_ | refine jA (by omega) ?_ | refine jB (by omega) ?_ | refine jC (by omega) ?_ | refine jD (by omega) ?_ | refine jE rfl ?_ | refine jF (by omega) ?_ | (refine jG ?_; first | with_reducible (first | refine jH ?_ | refine jI ?_ | refine jJ ?_ | refine jK ?_ | refine jL ?_) | refine jM (by omega) ?_ | refine jN (by omega) ?_ | with_reducible refine jM rfl ?_ | refine jM (by assumption) ?_ | refine jN (by assumption) ?_ | refine jM (by decide) ?_ | refine jN (by decide) ?_) | refine jF (ptr_ok tblOk rfl rfl) ?_ | refine jO (fun _ => by kernel_rfl) ?_ | refine jF (by decide) ?_ | refine hS.ld rfl ?_ | refine hS.ldn rfl ?_ | (refine hS.st rfl rfl ?_; intro _ hS))
      rw [d4]
      repeat (first | refine SemW.run tblOk ?_ | refine jA (by omega) ?_ | refine jB (by omega) ?_ | refine jC (by omega) ?_ | refine jD (by omega) ?_ | refine jE rfl ?_ | refine jF (by omega) ?_ | (refine jG ?_; first | with_reducible (first | refine jH ?_ | refine jI ?_ | refine jJ ?_ | refine jK ?_ | refine jL ?_) | refine jM (by omega) ?_ | refine jN (by omega) ?_ | with_reducible refine jM rfl ?_ | refine jM (by assumption) ?_ | refine jN (by assumption) ?_ | refine jM (by decide) ?_ | refine jN (by decide) ?_) | refine jF (ptr_ok tblOk rfl rfl) ?_ | refine jO (fun _ => by kernel_rfl) ?_ | refine jF (by decide) ?_ | refine hS.ld rfl ?_ | refine hS.ldn rfl ?_ | (refine hS.st rfl rfl ?_; intro _ hS))
      rw [d8]
      repeat (first | refine SemW.run tblOk ?_ | refine jA (by omega) ?_ | refine jB (by omega) ?_ | refine jC (by omega) ?_ | refine jD (by omega) ?_ | refine jE rfl ?_ | refine jF (by omega) ?_ | (refine jG ?_; first | with_reducible (first | refine jH ?_ | refine jI ?_ | refine jJ ?_ | refine jK ?_ | refine jL ?_) | refine jM (by omega) ?_ | refine jN (by omega) ?_ | with_reducible refine jM rfl ?_ | refine jM (by assumption) ?_ | refine jN (by assumption) ?_ | refine jM (by decide) ?_ | refine jN (by decide) ?_) | refine jF (ptr_ok tblOk rfl rfl) ?_ | refine jO (fun _ => by kernel_rfl) ?_ | refine jF (by decide) ?_ | refine hS.ld rfl ?_ | refine hS.ldn rfl ?_ | (refine hS.st rfl rfl ?_; intro _ hS))
      refine hS.al ?_
      intro b15 w8 _ hS
      repeat (first | refine SemW.run tblOk ?_ | refine jA (by omega) ?_ | refine jB (by omega) ?_ | refine jC (by omega) ?_ | refine jD (by omega) ?_ | refine jE rfl ?_ | refine jF (by omega) ?_ | (refine jG ?_; first | with_reducible (first | refine jH ?_ | refine jI ?_ | refine jJ ?_ | refine jK ?_ | refine jL ?_) | refine jM (by omega) ?_ | refine jN (by omega) ?_ | with_reducible refine jM rfl ?_ | refine jM (by assumption) ?_ | refine jN (by assumption) ?_ | refine jM (by decide) ?_ | refine jN (by decide) ?_) | refine jF (ptr_ok tblOk rfl rfl) ?_ | refine jO (fun _ => by kernel_rfl) ?_ | refine jF (by decide) ?_ | refine hS.ld rfl ?_ | refine hS.ldn rfl ?_ | (refine hS.st rfl rfl ?_; intro _ hS))
      exact ⟨_, rfl, maxbb e1 e2 hne hte s.bad, hS.sub (List.Sublist.cons _ (List.Sublist.cons _ (List.Sublist.cons_cons _ (List.nil_sublist _))))⟩
    · have hok := Bool.eq_false_iff.2 hok
      subst hok
      by_cases hx0 : x = []
      · subst hx0
        repeat (first | refine SemW.run tblOk ?_ | refine jA (by omega) ?_ | refine jB (by omega) ?_ | refine jC (by omega) ?_ | refine jD (by omega) ?_ | refine jE rfl ?_ | refine jF (by omega) ?_ | (refine jG ?_; first | with_reducible (first | refine jH ?_ | refine jI ?_ | refine jJ ?_ | refine jK ?_ | refine jL ?_) | refine jM (by omega) ?_ | refine jN (by omega) ?_ | with_reducible refine jM rfl ?_ | refine jM (by assumption) ?_ | refine jN (by assumption) ?_ | refine jM (by decide) ?_ | refine jN (by decide) ?_) | refine jF (ptr_ok tblOk rfl rfl) ?_ | refine jO (fun _ => by kernel_rfl) ?_ | refine jF (by decide) ?_ | refine hS.ld rfl ?_ | refine hS.ldn rfl ?_ | (refine hS.st rfl rfl ?_; intro _ hS))
        rw [d4]
        repeat (first | refine SemW.run tblOk ?_ | refine jA (by omega) ?_ | refine jB (by omega) ?_ | refine jC (by omega) ?_ | refine jD (by omega) ?_ | refine jE rfl ?_ | refine jF (by omega) ?_ | (refine jG ?_; first | with_reducible (first | refine jH ?_ | refine jI ?_ | refine jJ ?_ | refine jK ?_ | refine jL ?_) | refine jM (by omega) ?_ | refine jN (by omega) ?_ | with_reducible refine jM rfl ?_ | refine jM (by assumption) ?_ | refine jN (by assumption) ?_ | refine jM (by decide) ?_ | refine jN (by decide) ?_) | refine jF (ptr_ok tblOk rfl rfl) ?_ | refine jO (fun _ => by kernel_rfl) ?_ | refine jF (by decide) ?_ | refine hS.ld rfl ?_ | refine hS.ldn rfl ?_ | (refine hS.st rfl rfl ?_; intro _ hS))
        rw [d8]
        repeat (first | refine SemW.run tblOk ?_ | refine jA (by omega) ?_ | refine jB (by omega) ?_ | refine jC (by omega) ?_ | refine jD (by omega) ?_ | refine jE rfl ?_ | refine jF (by omega) ?_ | (refine jG ?_; first | with_reducible (first | refine jH ?_ | refine jI ?_ | refine jJ ?_ | refine jK ?_ | refine jL ?_) | refine jM (by omega) ?_ | refine jN (by omega) ?_ | with_reducible refine jM rfl ?_ | refine jM (by assumption) ?_ | refine jN (by assumption) ?_ | refine jM (by decide) ?_ | refine jN (by decide) ?_) | refine jF (ptr_ok tblOk rfl rfl) ?_ | refine jO (fun _ => by kernel_rfl) ?_ | refine jF (by decide) ?_ | refine hS.ld rfl ?_ | refine hS.ldn rfl ?_ | (refine hS.st rfl rfl ?_; intro _ hS))
        refine hS.al ?_
        intro b15 w8 _ hS
        repeat (first | refine SemW.run tblOk ?_ | refine jA (by omega) ?_ | refine jB (by omega) ?_ | refine jC (by omega) ?_ | refine jD (by omega) ?_ | refine jE rfl ?_ | refine jF (by omega) ?_ | (refine jG ?_; first | with_reducible (first | refine jH ?_ | refine jI ?_ | refine jJ ?_ | refine jK ?_ | refine jL ?_) | refine jM (by omega) ?_ | refine jN (by omega) ?_ | with_reducible refine jM rfl ?_ | refine jM (by assumption) ?_ | refine jN (by assumption) ?_ | refine jM (by decide) ?_ | refine jN (by decide) ?_) | refine jF (ptr_ok tblOk rfl rfl) ?_ | refine jO (fun _ => by kernel_rfl) ?_ | refine jF (by decide) ?_ | refine hS.ld rfl ?_ | refine hS.ldn rfl ?_ | (refine hS.st rfl rfl ?_; intro _ hS))
        exact ⟨_, rfl, maxbb e1 e2 hne hte s.bad, hS.sub (List.Sublist.cons _ (List.Sublist.cons _ (List.Sublist.cons_cons _ (List.nil_sublist _))))⟩
      · rw [decide_eq_true hx0]
        repeat (first | refine SemW.run tblOk ?_ | refine jA (by omega) ?_ | refine jB (by omega) ?_ | refine jC (by omega) ?_ | refine jD (by omega) ?_ | refine jE rfl ?_ | refine jF (by omega) ?_ | (refine jG ?_; first | with_reducible (first | refine jH ?_ | refine jI ?_ | refine jJ ?_ | refine jK ?_ | refine jL ?_) | refine jM (by omega) ?_ | refine jN (by omega) ?_ | with_reducible refine jM rfl ?_ | refine jM (by assumption) ?_ | refine jN (by assumption) ?_ | refine jM (by decide) ?_ | refine jN (by decide) ?_) | refine jF (ptr_ok tblOk rfl rfl) ?_ | refine jO (fun _ => by kernel_rfl) ?_ | refine jF (by decide) ?_ | refine hS.ld rfl ?_ | refine hS.ldn rfl ?_ | (refine hS.st rfl rfl ?_; intro _ hS))
        rw [d4]
        repeat (first | refine SemW.run tblOk ?_ | refine jA (by omega) ?_ | refine jB (by omega) ?_ | refine jC (by omega) ?_ | refine jD (by omega) ?_ | refine jE rfl ?_ | refine jF (by omega) ?_ | (refine jG ?_; first | with_reducible (first | refine jH ?_ | refine jI ?_ | refine jJ ?_ | refine jK ?_ | refine jL ?_) | refine jM (by omega) ?_ | refine jN (by omega) ?_ | with_reducible refine jM rfl ?_ | refine jM (by assumption) ?_ | refine jN (by assumption) ?_ | refine jM (by decide) ?_ | refine jN (by decide) ?_) | refine jF (ptr_ok tblOk rfl rfl) ?_ | refine jO (fun _ => by kernel_rfl) ?_ | refine jF (by decide) ?_ | refine hS.ld rfl ?_ | refine hS.ldn rfl ?_ | (refine hS.st rfl rfl ?_; intro _ hS))
        rw [d8]
        repeat (first | refine SemW.run tblOk ?_ | refine jA (by omega) ?_ | refine jB (by omega) ?_ | refine jC (by omega) ?_ | refine jD (by omega) ?_ | refine jE rfl ?_ | refine jF (by omega) ?_ | (refine jG ?_; first | with_reducible (first | refine jH ?_ | refine jI ?_ | refine jJ ?_ | refine jK ?_ | refine jL ?_) | refine jM (by omega) ?_ | refine jN (by omega) ?_ | with_reducible refine jM rfl ?_ | refine jM (by assumption) ?_ | refine jN (by assumption) ?_ | refine jM (by decide) ?_ | refine jN (by decide) ?_) | refine jF (ptr_ok tblOk rfl rfl) ?_ | refine jO (fun _ => by kernel_rfl) ?_ | refine jF (by decide) ?_ | refine hS.ld rfl ?_ | refine hS.ldn rfl ?_ | (refine hS.st rfl rfl ?_; intro _ hS))
        refine hS.al ?_
        intro b15 w8 _ hS
        repeat (first | refine SemW.run tblOk ?_ | refine jA (by omega) ?_ | refine jB (by omega) ?_ | refine jC (by omega) ?_ | refine jD (by omega) ?_ | refine jE rfl ?_ | refine jF (by omega) ?_ | (refine jG ?_; first | with_reducible (first | refine jH ?_ | refine jI ?_ | refine jJ ?_ | refine jK ?_ | refine jL ?_) | refine jM (by omega) ?_ | refine jN (by omega) ?_ | with_reducible refine jM rfl ?_ | refine jM (by assumption) ?_ | refine jN (by assumption) ?_ | refine jM (by decide) ?_ | refine jN (by decide) ?_) | refine jF (ptr_ok tblOk rfl rfl) ?_ | refine jO (fun _ => by kernel_rfl) ?_ | refine jF (by decide) ?_ | refine hS.ld rfl ?_ | refine hS.ldn rfl ?_ | (refine hS.st rfl rfl ?_; intro _ hS))
        exact ⟨_, rfl, max36 e1 e2 hne hte _, hS.sub (List.Sublist.cons _ (List.Sublist.cons _ (List.Sublist.cons_cons _ (List.nil_sublist _))))⟩
end Go.Proofs.YthpmmfapolcaiaaGreatDoor

/- == and != on structs of numbers, bools, texts and such structs. -/
namespace Go.Eng
open Go

section
variable {P : Program} {T0 : Tbl}
def PartIs (P : Program) (t : TypeId) (xs : List Value) (off : Nat) (v : Value) : Prop := ∀ w, (part t ⟨xs⟩ off).run P w = .ok v w
theorem PartIs.one (hT : TOk P T0) {t : TypeId} {i : TI} (hi : tf T0 t = some i) (ha : i.agg = false) {xs : List Value} {off : Nat} {v : Value} (hx : xs[off]? = some v) : PartIs P t xs off v := by
  intro w
  have h1 := load_one hT hi ha w
  simp [part, h1]
  rw [hx]; rfl
theorem PartIs.agg (hT : TOk P T0) {t : TypeId} {i : TI} (hi : tf T0 t = some i) (ha : i.agg = true) {xs vs : List Value} {off : Nat} (hx : (xs.drop off).take i.size = vs) : PartIs P t xs off (.agg ⟨vs⟩) := by
  intro w
  have h1 := load_agg hT hi ha w
  have h2 := size_of hT hi w
  simp [part, h1, h2]
  exact hx
/-- Two values of a type are compared, however deep n parts below may lie. -/
def EqV (n : Nat) (P : Program) (t : TypeId) (a b : Value) (r : Bool) : Prop := ∀ k w, (Op.equalIn (k + n) t a b).run P w = .ok r w
def fieldRows (fs : List Field) : List (Bool × TypeId × Nat) := fs.map fun f => (decide (f.name ≠ "_"), f.type, f.offset)
def EqFs (n : Nat) (P : Program) (xs ys : List Value) (d : List (TypeId × Nat)) (r : Bool) : Prop :=
  ∀ (fs : List Field), fieldRows fs = d.map (fun x => (true, x.1, x.2)) → ∀ k w, (Op.eqFields (k + n) ⟨xs⟩ ⟨ys⟩ fs).run P w = .ok r w
theorem EqV.int {n : Nat} (hT : TOk P T0) {t : TypeId} {i : TI} (hi : tf T0 t = some i) {kk k : IntKind} (hk : i.k = .int kk) (a b : Int) : EqV (n + 1) P t (.int k a) (.int k b) (decide (a = b)) := by
  intro d w
  have h := und_of hT hi; rw [hk] at h
  rw [show decide (a = b) = (a == b) by rw [Bool.eq_iff_iff]; simp]
  exact run_equalIn_int w (d + n) t k kk a b h
theorem EqV.bool {n : Nat} (hT : TOk P T0) {t : TypeId} {i : TI} (hi : tf T0 t = some i) (hk : i.k = .bool) (a b : Bool) : EqV (n + 1) P t (.bool a) (.bool b) (decide (a = b)) := by
  intro d w
  have h := und_of hT hi; rw [hk] at h
  rw [show decide (a = b) = (a == b) by rw [Bool.eq_iff_iff]; simp]
  exact run_equalIn_bool' w (d + n) t a b h
theorem EqV.str {n : Nat} (hT : TOk P T0) {t : TypeId} {i : TI} (hi : tf T0 t = some i) (hk : i.k = .str) (a b : List UInt8) : EqV (n + 1) P t (Str a) (Str b) (decide (a = b)) := by
  intro d w
  have h := und_of hT hi; rw [hk] at h
  rw [show decide (a = b) = ((⟨⟨a⟩⟩ : ByteArray).toList == (⟨⟨b⟩⟩ : ByteArray).toList) by rw [bytes_toList, bytes_toList, Bool.eq_iff_iff]; simp]
  exact run_equalIn_string w (d + n) t _ _ h
theorem EqFs.nil {n : Nat} {xs ys : List Value} : EqFs n P xs ys [] true := by
  intro fs h k w
  cases fs with
  | nil => simp [Op.eqFields]
  | cons f fs => simp [fieldRows] at h
theorem EqFs.cons {n : Nat} {xs ys : List Value} {t : TypeId} {off : Nat} {d : List (TypeId × Nat)} {a b : Value} {r1 r2 : Bool} (h1 : PartIs P t xs off a) (h2 : PartIs P t ys off b) (h3 : EqV n P t a b r1) (h4 : EqFs n P xs ys d r2) :
    EqFs n P xs ys ((t, off) :: d) (r1 && r2) := by
  intro fs h k w
  cases fs with
  | nil => simp [fieldRows] at h
  | cons f fs =>
    simp only [fieldRows, List.map_cons, List.cons.injEq, Prod.mk.injEq, decide_eq_true_eq] at h
    obtain ⟨⟨hn, rfl, rfl⟩, h⟩ := h
    have e := h4 fs h k w
    simp only [Op.eqFields, if_pos hn, Sem.run_bind, h1 w, h2 w, h3 k w, Result.andThen_ok, Sem.run_ite]
    cases r1 with
    | false => simp
    | true => simp [e]
theorem EqV.struct {n : Nat} {t : TypeId} {d : List (TypeId × Nat)} (ht : P.underlying t = some (.struct (P.fieldsOf t))) (hp : P.stoodInHeld t = false) (hd : fieldRows (P.fieldsOf t).toList = d.map (fun x => (true, x.1, x.2))) {xs ys : List Value} {r : Bool} (h : EqFs n P xs ys d r) :
    EqV (n + 1) P t (.agg ⟨xs⟩) (.agg ⟨ys⟩) r := by
  intro k w
  rw [show k + (n + 1) = (k + n) + 1 by omega, run_equalIn_struct w (k + n) t _ _ ht hp]
  exact h _ hd k w
theorem eqlAgg {n : Nat} {t : TypeId} {x y : Operand} {xs ys : List Value} {r : Bool} (hn : n ≤ 10000) (hm : P.eqGuardType P.depth t = false) (h : EqV n P t (.agg ⟨xs⟩) (.agg ⟨ys⟩) r) {K : Value → Prop} (hK : K (.bool r)) :
    PureRun P (do eqGuard .eql t x y (.agg ⟨xs⟩) (.agg ⟨ys⟩); binOp .eql t (.agg ⟨xs⟩) (.agg ⟨ys⟩)) K := by
  refine ⟨_, fun w => ?_, hK⟩
  have h1 := run_eqGuard_agg (P := P) w .eql t x y ⟨xs⟩ ⟨ys⟩ hm
  have h2 := h (10000 - n) w
  rw [show 10000 - n + n = 10000 by omega] at h2
  simp only [Sem.run_bind, h1, Result.andThen_ok, run_eql_struct, h2]
theorem neqAgg {n : Nat} {t : TypeId} {x y : Operand} {xs ys : List Value} {r : Bool} (hn : n ≤ 10000) (hm : P.eqGuardType P.depth t = false) (h : EqV n P t (.agg ⟨xs⟩) (.agg ⟨ys⟩) r) {K : Value → Prop} (hK : K (.bool (!r))) :
    PureRun P (do eqGuard .neq t x y (.agg ⟨xs⟩) (.agg ⟨ys⟩); binOp .neq t (.agg ⟨xs⟩) (.agg ⟨ys⟩)) K := by
  refine ⟨_, fun w => ?_, hK⟩
  have h1 := run_eqGuard_agg (P := P) w .neq t x y ⟨xs⟩ ⟨ys⟩ hm
  have h2 := h (10000 - n) w
  rw [show 10000 - n + n = 10000 by omega] at h2
  simp only [Sem.run_bind, h1, Result.andThen_ok, run_neq_struct, h2]
end
end Go.Eng

/- Seats compared. -/
namespace Go.Proofs.YthpmmfapolcaiaaGreatDoor
open Go Go.Eng Go.Proofs
theorem eqSeat (a : Int) (c : Nat) (b : Int) (d : Nat) : EqV 2 Tryz.prog T_api_Seat (seatV a c) (seatV b d) (decide (a = b ∧ c = d)) := by
  have h : EqV 2 Tryz.prog T_api_Seat (seatV a c) (seatV b d) (decide (a = b) && (decide ((c : Int) = (d : Int)) && true)) := by
    refine EqV.struct (d := [(T_int, 0), (T_uint8, 1)]) (by kernel_rfl) (by kernel_rfl) (by kernel_rfl) ?_
    refine EqFs.cons (PartIs.one tblOk rfl rfl rfl) (PartIs.one tblOk rfl rfl rfl) (EqV.int tblOk rfl rfl _ _) ?_
    exact EqFs.cons (PartIs.one tblOk rfl rfl rfl) (PartIs.one tblOk rfl rfl rfl) (EqV.int tblOk rfl rfl _ _) EqFs.nil
  have e : decide (a = b ∧ c = d) = (decide (a = b) && (decide ((c : Int) = (d : Int)) && true)) := by
    rw [Bool.eq_iff_iff]; simp; omega
  rw [e]; exact h
end Go.Proofs.YthpmmfapolcaiaaGreatDoor

/- Arrays: an element of an array's value, slices of an array, copies within a block. -/
namespace Go.Eng
open Go

section
variable {P : Program} {T0 : Tbl}
theorem indexArr (hT : TOk P T0) {t e : TypeId} {i ie : TI} {n : Nat} (hi : tf T0 t = some i) (hk : i.k = .arr n e 1) (hie : tf T0 e = some ie) (hagg : ie.agg = false) {cs : List Value} {j : Nat} (hj : j < n) {v : Value} (hv : cs[j]? = some v) {k : IntKind} {K : Value → Prop} (hK : K v) :
    PureRun P (Instr.index t (.agg ⟨cs⟩) (.int k (j : Int))) K := by
  refine ⟨v, fun w => ?_, hK⟩
  have ht := und_of hT hi; rw [hk] at ht
  obtain ⟨hu, hs⟩ := ht
  cases hinf : P.info? e with
  | none => rw [hinf] at hs; simp at hs
  | some inf =>
    rw [hinf] at hs
    have hs1 : inf.size = 1 := by simpa using hs
    have ha : (isAgg e).run P w = .ok false w := load_one hT hie hagg w
    simp [Instr.index, run_underlying hu, asIntOf, hj, part, ha, sizeOf, typeInfo, hinf, hs1]
    rw [hv]; rfl
theorem sliceArrL (hT : TOk P T0) {t e : TypeId} {i : TI} {n sz : Nat} (hi : tf T0 t = some i) (hk : i.k = .arr n e sz) {b off l : Nat} (hl : l ≤ n) {k : IntKind} {C : World → Prop} {K : Value → Prop} (hK : K (.slice (subA b off l n sz) (n - l) (n - l))) :
    RdG P (Instr.sliceAt t (.pointer (some ⟨b, off, none⟩)) (some (.int k (l : Int))) none none) C K := by
  refine ⟨_, fun w _ => ?_, hK⟩
  have ht := und_of hT hi; rw [hk] at ht
  obtain ⟨hu, hs⟩ := ht
  cases hinf : P.info? e with
  | none => rw [hinf] at hs; simp at hs
  | some inf =>
    rw [hinf] at hs
    have hs1 : inf.size = sz := by simpa using hs
    have e1 : P.elem t = e := by simp [Program.elem, hu]
    have e2 : P.arrayLen t = n := by simp [Program.arrayLen, hu]
    rw [run_sliceAt_array_l w t ⟨b, off, none⟩ (by rw [e1, e2]; exact hu) k l (by omega) (by rw [e2]; omega)]
    rw [e1, e2]
    simp [sizeOf, typeInfo, hinf, hs1, slicedAt, subA, Addr.add_eq]
theorem sliceArrM (hT : TOk P T0) {t e : TypeId} {i : TI} {n sz : Nat} (hi : tf T0 t = some i) (hk : i.k = .arr n e sz) {b off l : Nat} (hl : l < n) {k : IntKind} {C : World → Prop} {K : Value → Prop} (hK : K (.slice (some ⟨b, off + l * sz, none⟩) (n - l) (n - l))) :
    RdG P (Instr.sliceAt t (.pointer (some ⟨b, off, none⟩)) (some (.int k (l : Int))) none none) C K := by
  refine sliceArrL hT hi hk (by omega) ?_
  unfold subA; rw [if_neg (by omega)]; exact hK
theorem sliceArrH (hT : TOk P T0) {t e : TypeId} {i : TI} {n sz : Nat} (hi : tf T0 t = some i) (hk : i.k = .arr n e sz) {b off h : Nat} (hl : h ≤ n) {k : IntKind} {C : World → Prop} {K : Value → Prop} (hK : K (.slice (some ⟨b, off, none⟩) h n)) :
    RdG P (Instr.sliceAt t (.pointer (some ⟨b, off, none⟩)) none (some (.int k (h : Int))) none) C K := by
  refine ⟨_, fun w _ => ?_, hK⟩
  have ht := und_of hT hi; rw [hk] at ht
  obtain ⟨hu, hs⟩ := ht
  cases hinf : P.info? e with
  | none => rw [hinf] at hs; simp at hs
  | some inf =>
    rw [hinf] at hs
    have hs1 : inf.size = sz := by simpa using hs
    have e1 : P.elem t = e := by simp [Program.elem, hu]
    have e2 : P.arrayLen t = n := by simp [Program.arrayLen, hu]
    rw [run_sliceAt_array_h w t ⟨b, off, none⟩ (by rw [e1, e2]; exact hu) k h (by omega) (by rw [e2]; omega)]
    rw [e1, e2]
    simp [sizeOf, typeInfo, hinf, hs1, slicedAt, Addr.add_eq]
theorem sliceArrA (hT : TOk P T0) {t e : TypeId} {i : TI} {n sz : Nat} (hi : tf T0 t = some i) (hk : i.k = .arr n e sz) {b off : Nat} {C : World → Prop} {K : Value → Prop} (hK : K (.slice (some ⟨b, off, none⟩) n n)) :
    RdG P (Instr.sliceAt t (.pointer (some ⟨b, off, none⟩)) none none none) C K := by
  refine ⟨_, fun w _ => ?_, hK⟩
  have ht := und_of hT hi; rw [hk] at ht
  obtain ⟨hu, hs⟩ := ht
  cases hinf : P.info? e with
  | none => rw [hinf] at hs; simp at hs
  | some inf =>
    rw [hinf] at hs
    have hs1 : inf.size = sz := by simpa using hs
    have e1 : P.elem t = e := by simp [Program.elem, hu]
    have e2 : P.arrayLen t = n := by simp [Program.arrayLen, hu]
    rw [run_sliceAt_array_all w t ⟨b, off, none⟩ (by rw [e1, e2]; exact hu)]
    rw [e1, e2]
    simp [sizeOf, typeInfo, hinf, slicedAt, Addr.add_eq]
/-- copy into an own block, from whatever is read. -/
theorem St.copy (hT : TOk P T0) {t u e ty : TypeId} {i : TI} (hi : tf T0 t = some i) (hk : i.k = .slice e 1) {w0 w : World} {T : List Nat} {H : Heap} {g off n cap : Nat} {l : List Value} {et : TypeId} {F : Obj → Heap} (hS : St w0 T H w) [hs : Slot H g (.cells ⟨l⟩ et (0, 0)) F]
    {a : Addr} {m c : Nat} {cs : List Value} (hn : cs.length = min m n) (ha : Arr w [] (some a) cs) (h1 : cs.all Value.oneCell' = true) (hfit : off + cs.length ≤ l.length) {K : Value → World → Prop}
    (h : ∀ w', St w0 T (F (.cells ⟨splice l off cs⟩ et (0, 0))) w' → K (.int .i64 cs.length) w') :
    RunG P (Builtin.copy_ ⟨[t, u]⟩ ty ⟨[.slice (some ⟨g, off, none⟩) n cap, .slice (some a) m c]⟩) w K := by
  have ht := und_of hT hi; rw [hk] at ht
  have hmem := hS.mem (b := g)
  refine RunG.of (run_copy_row P w t u ty e g off n cap a m c ⟨l⟩ et cs ht.1 ht.2 hmem hn (fun j v hj => ?_) (by simpa using hfit) (fun v hv => List.all_eq_true.1 h1 v hv)) ?_
  · obtain ⟨b', o', h2, -, h3⟩ := ha j v hj
    cases h2
    rw [Addr.add_eq]; exact h3
  · exact h _ (hS.setRow (l := l))
end
end Go.Eng
