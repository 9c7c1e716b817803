/- Package frame: First. -/
import Derived.Test.YtkncpdehgcldbaaDoorFrameN
namespace Go.Proofs.YtkncpdehgcldbaaDoor
open Go Go.Eng Go.Proofs

/-- First: the payload of the frame at a place, the place behind it, the error. -/
def firstM (t : List UInt8) (k : Nat) : List UInt8 × Nat × Int :=
  if t.length < k + 8 then ([], 0, 1)
  else if 65536 < num4 (t.drop k) ∨ (t.drop k).length < num4 (t.drop k) + 8 then ([], 0, 1)
  else if crcN [(t.drop k).take 4, ((t.drop k).take (8 + num4 (t.drop k))).drop 8] = num4 ((t.drop k).drop 4) then (((t.drop k).take (8 + num4 (t.drop k))).drop 8, k + 8 + num4 (t.drop k), 0)
  else ([], 0, 1)

set_option maxHeartbeats 1000000 in
theorem First_spec {w : World} (t : List UInt8) (k : Nat) (ht : t.length ≤ 140737488355328) (hk : k ≤ t.length) :
    Cl Tryd.prog f_frame_First [Str t, .int .i64 k] w fun v w' => v = .tuple ⟨[Str (firstM t k).1, .int .i64 (firstM t k).2.1, .int .i64 (firstM t k).2.2]⟩ ∧ St w [] [] w' := by
  have hS := St.start w
  refine en_frame_First rfl ?_
  unfold firstM
  by_cases h1 : t.length < k + 8
  · rw [if_pos h1]
    repeat (first | refine SemW.run tblOk ?_ | refine IntG.nw (by omega) ?_ | refine IntG.nu8 (by omega) ?_ | refine IntG.nu32 (by omega) ?_ | refine IntG.nu64 (by omega) ?_ | refine IntG.wr' rfl ?_ | refine Chk.mk (by omega) ?_ | (refine BrG.id ?_; first | with_reducible refine BrG.t ?_ | with_reducible refine BrG.f ?_ | with_reducible refine BrG.notG ?_ | with_reducible refine BrG.nn ?_ | with_reducible refine BrG.ns ?_ | refine BrG.pos (by omega) ?_ | refine BrG.neg (by omega) ?_ | with_reducible refine BrG.pos rfl ?_ | refine BrG.pos (by assumption) ?_ | refine BrG.neg (by assumption) ?_ | refine BrG.pos (by decide) ?_ | refine BrG.neg (by decide) ?_) | refine Chk.mk (ptr_ok tblOk rfl rfl) ?_ | refine Chk.mk (by decide) ?_)
    exact ⟨rfl, hS⟩
  · rw [if_neg h1]
    repeat (first | refine SemW.run tblOk ?_ | refine IntG.nw (by omega) ?_ | refine IntG.nu8 (by omega) ?_ | refine IntG.nu32 (by omega) ?_ | refine IntG.nu64 (by omega) ?_ | refine IntG.wr' rfl ?_ | refine Chk.mk (by omega) ?_ | (refine BrG.id ?_; first | with_reducible refine BrG.t ?_ | with_reducible refine BrG.f ?_ | with_reducible refine BrG.notG ?_ | with_reducible refine BrG.nn ?_ | with_reducible refine BrG.ns ?_ | refine BrG.pos (by omega) ?_ | refine BrG.neg (by omega) ?_ | with_reducible refine BrG.pos rfl ?_ | refine BrG.pos (by assumption) ?_ | refine BrG.neg (by assumption) ?_ | refine BrG.pos (by decide) ?_ | refine BrG.neg (by decide) ?_) | refine Chk.mk (ptr_ok tblOk rfl rfl) ?_ | refine Chk.mk (by decide) ?_)
    refine (number_spec (t.drop k) (by simp; omega)).mono ?_
    rintro _ w1 ⟨rfl, hS'⟩
    have hS := hS.call0 hS'
    have hrl : (t.drop k).length = t.length - k := by simp
    rw [show List.drop (k : Int).toNat t = t.drop k from rfl]
    generalize t.drop k = rest at hrl ⊢
    have hn := num4_lt rest
    generalize num4 rest = n at hn ⊢
    by_cases h2 : 65536 < n
    · rw [if_pos (.inl h2)]
      repeat (first | refine SemW.run tblOk ?_ | refine IntG.nw (by omega) ?_ | refine IntG.nu8 (by omega) ?_ | refine IntG.nu32 (by omega) ?_ | refine IntG.nu64 (by omega) ?_ | refine IntG.wr' rfl ?_ | refine Chk.mk (by omega) ?_ | (refine BrG.id ?_; first | with_reducible refine BrG.t ?_ | with_reducible refine BrG.f ?_ | with_reducible refine BrG.notG ?_ | with_reducible refine BrG.nn ?_ | with_reducible refine BrG.ns ?_ | refine BrG.pos (by omega) ?_ | refine BrG.neg (by omega) ?_ | with_reducible refine BrG.pos rfl ?_ | refine BrG.pos (by assumption) ?_ | refine BrG.neg (by assumption) ?_ | refine BrG.pos (by decide) ?_ | refine BrG.neg (by decide) ?_) | refine Chk.mk (ptr_ok tblOk rfl rfl) ?_ | refine Chk.mk (by decide) ?_)
      exact ⟨rfl, hS⟩
    · repeat (first | refine SemW.run tblOk ?_ | refine IntG.nw (by omega) ?_ | refine IntG.nu8 (by omega) ?_ | refine IntG.nu32 (by omega) ?_ | refine IntG.nu64 (by omega) ?_ | refine IntG.wr' rfl ?_ | refine Chk.mk (by omega) ?_ | (refine BrG.id ?_; first | with_reducible refine BrG.t ?_ | with_reducible refine BrG.f ?_ | with_reducible refine BrG.notG ?_ | with_reducible refine BrG.nn ?_ | with_reducible refine BrG.ns ?_ | refine BrG.pos (by omega) ?_ | refine BrG.neg (by omega) ?_ | with_reducible refine BrG.pos rfl ?_ | refine BrG.pos (by assumption) ?_ | refine BrG.neg (by assumption) ?_ | refine BrG.pos (by decide) ?_ | refine BrG.neg (by decide) ?_) | refine Chk.mk (ptr_ok tblOk rfl rfl) ?_ | refine Chk.mk (by decide) ?_)
      by_cases h3 : rest.length < n + 8
      · rw [if_pos (.inr h3)]
        repeat (first | refine SemW.run tblOk ?_ | refine IntG.nw (by omega) ?_ | refine IntG.nu8 (by omega) ?_ | refine IntG.nu32 (by omega) ?_ | refine IntG.nu64 (by omega) ?_ | refine IntG.wr' rfl ?_ | refine Chk.mk (by omega) ?_ | (refine BrG.id ?_; first | with_reducible refine BrG.t ?_ | with_reducible refine BrG.f ?_ | with_reducible refine BrG.notG ?_ | with_reducible refine BrG.nn ?_ | with_reducible refine BrG.ns ?_ | refine BrG.pos (by omega) ?_ | refine BrG.neg (by omega) ?_ | with_reducible refine BrG.pos rfl ?_ | refine BrG.pos (by assumption) ?_ | refine BrG.neg (by assumption) ?_ | refine BrG.pos (by decide) ?_ | refine BrG.neg (by decide) ?_) | refine Chk.mk (ptr_ok tblOk rfl rfl) ?_ | refine Chk.mk (by decide) ?_)
        exact ⟨rfl, hS⟩
      · rw [if_neg (by omega)]
        repeat (first | refine SemW.run tblOk ?_ | refine IntG.nw (by omega) ?_ | refine IntG.nu8 (by omega) ?_ | refine IntG.nu32 (by omega) ?_ | refine IntG.nu64 (by omega) ?_ | refine IntG.wr' rfl ?_ | refine Chk.mk (by omega) ?_ | (refine BrG.id ?_; first | with_reducible refine BrG.t ?_ | with_reducible refine BrG.f ?_ | with_reducible refine BrG.notG ?_ | with_reducible refine BrG.nn ?_ | with_reducible refine BrG.ns ?_ | refine BrG.pos (by omega) ?_ | refine BrG.neg (by omega) ?_ | with_reducible refine BrG.pos rfl ?_ | refine BrG.pos (by assumption) ?_ | refine BrG.neg (by assumption) ?_ | refine BrG.pos (by decide) ?_ | refine BrG.neg (by decide) ?_) | refine Chk.mk (ptr_ok tblOk rfl rfl) ?_ | refine Chk.mk (by decide) ?_)
        refine SemW.draw tblOk mixed (fun w' => St w [] [] w') [7, 8] [0, 1, 2, 5, 6, 3, 4, 7, 8] (by kernel_rfl) hS.drew ?_
        have hS := hS.drew
        repeat (first | refine SemW.run tblOk ?_ | refine IntG.nw (by omega) ?_ | refine IntG.nu8 (by omega) ?_ | refine IntG.nu32 (by omega) ?_ | refine IntG.nu64 (by omega) ?_ | refine IntG.wr' rfl ?_ | refine Chk.mk (by omega) ?_ | (refine BrG.id ?_; first | with_reducible refine BrG.t ?_ | with_reducible refine BrG.f ?_ | with_reducible refine BrG.notG ?_ | with_reducible refine BrG.nn ?_ | with_reducible refine BrG.ns ?_ | refine BrG.pos (by omega) ?_ | refine BrG.neg (by omega) ?_ | with_reducible refine BrG.pos rfl ?_ | refine BrG.pos (by assumption) ?_ | refine BrG.neg (by assumption) ?_ | refine BrG.pos (by decide) ?_ | refine BrG.neg (by decide) ?_) | refine Chk.mk (ptr_ok tblOk rfl rfl) ?_ | refine Chk.mk (by decide) ?_)
        refine hS.al ?_
        intro b2 w2 _ hS
        refine Chk.mk hS.nil ?_
        refine (Sum_spec (ps := [rest.take 4, (rest.take (8 + n)).drop 8]) (by simp) (by simp; omega) (hS.arr (b := b2) (by simp))).mono ?_
        rintro _ w3 ⟨rfl, hS'⟩
        have hS := (hS.call0 hS').nil
        refine Chk.mk hS ?_
        refine (number_spec (rest.drop 4) (by simp; omega)).mono ?_
        rintro _ w4 ⟨rfl, hS'⟩
        have hS := hS.call0 hS'
        by_cases h5 : crcN [rest.take 4, (rest.take (8 + n)).drop 8] = num4 (rest.drop 4)
        · rw [if_pos h5]
          repeat (first | refine SemW.run tblOk ?_ | refine IntG.nw (by omega) ?_ | refine IntG.nu8 (by omega) ?_ | refine IntG.nu32 (by omega) ?_ | refine IntG.nu64 (by omega) ?_ | refine IntG.wr' rfl ?_ | refine Chk.mk (by omega) ?_ | (refine BrG.id ?_; first | with_reducible refine BrG.t ?_ | with_reducible refine BrG.f ?_ | with_reducible refine BrG.notG ?_ | with_reducible refine BrG.nn ?_ | with_reducible refine BrG.ns ?_ | refine BrG.pos (by omega) ?_ | refine BrG.neg (by omega) ?_ | with_reducible refine BrG.pos rfl ?_ | refine BrG.pos (by assumption) ?_ | refine BrG.neg (by assumption) ?_ | refine BrG.pos (by decide) ?_ | refine BrG.neg (by decide) ?_) | refine Chk.mk (ptr_ok tblOk rfl rfl) ?_ | refine Chk.mk (by decide) ?_)
          exact ⟨rfl, hS⟩
        · rw [if_neg h5]
          repeat (first | refine SemW.run tblOk ?_ | refine IntG.nw (by omega) ?_ | refine IntG.nu8 (by omega) ?_ | refine IntG.nu32 (by omega) ?_ | refine IntG.nu64 (by omega) ?_ | refine IntG.wr' rfl ?_ | refine Chk.mk (by omega) ?_ | (refine BrG.id ?_; first | with_reducible refine BrG.t ?_ | with_reducible refine BrG.f ?_ | with_reducible refine BrG.notG ?_ | with_reducible refine BrG.nn ?_ | with_reducible refine BrG.ns ?_ | refine BrG.pos (by omega) ?_ | refine BrG.neg (by omega) ?_ | with_reducible refine BrG.pos rfl ?_ | refine BrG.pos (by assumption) ?_ | refine BrG.neg (by assumption) ?_ | refine BrG.pos (by decide) ?_ | refine BrG.neg (by decide) ?_) | refine Chk.mk (ptr_ok tblOk rfl rfl) ?_ | refine Chk.mk (by decide) ?_)
          exact ⟨rfl, hS⟩

/-- Scan: the payloads of the frames from the beginning on, and where they end. -/
def scanM (t : List UInt8) : Nat → Nat → List (List UInt8) × Nat
  | 0, k => ([], k)
  | fuel + 1, k => if (firstM t k).2.2 ≠ 0 then ([], k) else ((firstM t k).1 :: (scanM t fuel (firstM t k).2.1).1, (scanM t fuel (firstM t k).2.1).2)
theorem firstM_next (t : List UInt8) (k : Nat) (h : (firstM t k).2.2 = 0) : k + 8 ≤ (firstM t k).2.1 ∧ (firstM t k).2.1 ≤ t.length ∧ (firstM t k).2.1 = k + 8 + (firstM t k).1.length ∧ (firstM t k).1.length ≤ 65536 := by
  unfold firstM at h ⊢
  split at h
  · simp at h
  · rename_i h1
    rw [if_neg h1]
    split at h
    · simp at h
    · rename_i h2
      rw [if_neg h2]
      split at h
      · rename_i h3
        rw [if_pos h3]
        simp only [List.length_drop, List.length_take] at *
        omega
      · simp at h
end Go.Proofs.YtkncpdehgcldbaaDoor
