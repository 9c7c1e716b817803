/- Package pack: the reader's texts. -/
import Derived.Test.YtklppplnkpnbhaaDoorReadN
import Derived.Test.YtklppplnkpnbhaaDoorPack
namespace Go.Proofs.YtklppplnkpnbhaaDoor
open Go Go.Eng Go.Proofs
/-- What a read of a text answers, and what is left. -/
def textO (t : Bytes) : Bytes × Int × Bytes := match textR t with
  | some (s, r) => (s, 0, r)
  | none => ([], 1, t)
theorem textO_len (t : Bytes) : (textO t).1.length + (textO t).2.2.length ≤ t.length := by
  unfold textO
  cases h : textR t with
  | none => show 0 + t.length ≤ t.length; omega
  | some x =>
    obtain ⟨s, r⟩ := x
    have := congrArg List.length ((textR_iff t s r).1 h).1
    simp only [textB, List.length_append] at this
    show s.length + r.length ≤ t.length
    omega
set_option maxHeartbeats 1000000 in
theorem RText_spec {w : World} {b : Nat} {t : Bytes} (hh : Holds [(b, rdC t)] w) (ht : t.length ≤ 70368744177664) :
    Cl Tryd.prog f_pack_Reader_Text [ptr b] w fun v w' => v = .tuple ⟨[Str (textO t).1, .int .i64 (textO t).2.1]⟩ ∧ St w [b] [(b, rdC (textO t).2.2)] w' := by
  have hS : St w [b] [(b, rdC t)] w := St.enter hh
  refine en_pack_Reader_Text rfl ?_
  repeat (first | refine SemW.run tblOk ?_ | refine IntG.nw (by omega) ?_ | refine IntG.nu8 (by omega) ?_ | refine IntG.nu32 (by omega) ?_ | refine IntG.nu64 (by omega) ?_ | refine IntG.wr' rfl ?_ | refine Chk.mk (by omega) ?_ | (refine BrG.id ?_; first | with_reducible refine BrG.t ?_ | with_reducible refine BrG.f ?_ | with_reducible refine BrG.notG ?_ | with_reducible refine BrG.nn ?_ | with_reducible refine BrG.ns ?_ | refine BrG.pos (by omega) ?_ | refine BrG.neg (by omega) ?_ | with_reducible refine BrG.pos rfl ?_ | refine BrG.pos (by assumption) ?_ | refine BrG.neg (by assumption) ?_ | refine BrG.pos (by decide) ?_ | refine BrG.neg (by decide) ?_) | refine Chk.mk (ptr_ok tblOk rfl rfl) ?_ | refine Chk.mk (by decide) ?_ | refine hS.ld rfl ?_ | refine hS.ldn rfl ?_ | (refine hS.st rfl rfl ?_; intro _ hS))
  refine Cl.mono (RNum_spec hh ht) ?_
  rintro _ w1 ⟨rfl, hS1⟩
  have hlt := numO_lt t
  have hln := numO_len t
  unfold textO textR
  cases h : numR t with
  | none =>
    have hn : numO t = (0, 1, t) := by unfold numO; rw [h]
    rw [hn] at hS1 ⊢
    simp only at hS1 ⊢
    have hS := hS1
    repeat (first | refine SemW.run tblOk ?_ | refine IntG.nw (by omega) ?_ | refine IntG.nu8 (by omega) ?_ | refine IntG.nu32 (by omega) ?_ | refine IntG.nu64 (by omega) ?_ | refine IntG.wr' rfl ?_ | refine Chk.mk (by omega) ?_ | (refine BrG.id ?_; first | with_reducible refine BrG.t ?_ | with_reducible refine BrG.f ?_ | with_reducible refine BrG.notG ?_ | with_reducible refine BrG.nn ?_ | with_reducible refine BrG.ns ?_ | refine BrG.pos (by omega) ?_ | refine BrG.neg (by omega) ?_ | with_reducible refine BrG.pos rfl ?_ | refine BrG.pos (by assumption) ?_ | refine BrG.neg (by assumption) ?_ | refine BrG.pos (by decide) ?_ | refine BrG.neg (by decide) ?_) | refine Chk.mk (ptr_ok tblOk rfl rfl) ?_ | refine Chk.mk (by decide) ?_ | refine hS.ld rfl ?_ | refine hS.ldn rfl ?_ | (refine hS.st rfl rfl ?_; intro _ hS))
    exact ⟨rfl, hS⟩
  | some x =>
    obtain ⟨m, r⟩ := x
    have hn : numO t = (m, 0, r) := by unfold numO; rw [h]
    rw [hn] at hS1 hlt hln ⊢
    simp only at hS1 hlt hln ⊢
    have hS := hS1
    by_cases hm : r.length < m
    · rw [if_pos hm]
      repeat (first | refine SemW.run tblOk ?_ | refine IntG.nw (by omega) ?_ | refine IntG.nu8 (by omega) ?_ | refine IntG.nu32 (by omega) ?_ | refine IntG.nu64 (by omega) ?_ | refine IntG.wr' rfl ?_ | refine Chk.mk (by omega) ?_ | (refine BrG.id ?_; first | with_reducible refine BrG.t ?_ | with_reducible refine BrG.f ?_ | with_reducible refine BrG.notG ?_ | with_reducible refine BrG.nn ?_ | with_reducible refine BrG.ns ?_ | refine BrG.pos (by omega) ?_ | refine BrG.neg (by omega) ?_ | with_reducible refine BrG.pos rfl ?_ | refine BrG.pos (by assumption) ?_ | refine BrG.neg (by assumption) ?_ | refine BrG.pos (by decide) ?_ | refine BrG.neg (by decide) ?_) | refine Chk.mk (ptr_ok tblOk rfl rfl) ?_ | refine Chk.mk (by decide) ?_ | refine hS.ld rfl ?_ | refine hS.ldn rfl ?_ | (refine hS.st rfl rfl ?_; intro _ hS))
      exact ⟨rfl, hS⟩
    · rw [if_neg hm]
      repeat (first | refine SemW.run tblOk ?_ | refine IntG.nw (by omega) ?_ | refine IntG.nu8 (by omega) ?_ | refine IntG.nu32 (by omega) ?_ | refine IntG.nu64 (by omega) ?_ | refine IntG.wr' rfl ?_ | refine Chk.mk (by omega) ?_ | (refine BrG.id ?_; first | with_reducible refine BrG.t ?_ | with_reducible refine BrG.f ?_ | with_reducible refine BrG.notG ?_ | with_reducible refine BrG.nn ?_ | with_reducible refine BrG.ns ?_ | refine BrG.pos (by omega) ?_ | refine BrG.neg (by omega) ?_ | with_reducible refine BrG.pos rfl ?_ | refine BrG.pos (by assumption) ?_ | refine BrG.neg (by assumption) ?_ | refine BrG.pos (by decide) ?_ | refine BrG.neg (by decide) ?_) | refine Chk.mk (ptr_ok tblOk rfl rfl) ?_ | refine Chk.mk (by decide) ?_ | refine hS.ld rfl ?_ | refine hS.ldn rfl ?_ | (refine hS.st rfl rfl ?_; intro _ hS))
      exact ⟨rfl, hS⟩
end Go.Proofs.YtklppplnkpnbhaaDoor
