/- pass.Write; lives; PassUnlike. -/
import Derived.Test.YtklppplnkpnbhaaDoorMac
import Derived.Test.YtklppplnkpnbhaaDoorPass
import Derived.Test.YtklppplnkpnbhaaDoorEq
namespace Go.Proofs.YtklppplnkpnbhaaDoor
open Go Go.Eng Go.Proofs

theorem ints_flat (a b c : Int) : intsB [a, b, c] = intB a ++ (intB b ++ intB c) := by simp [intsB]
theorem texts_one (s : Bytes) : textsB [s] = textB s := by simp [textsB]
theorem bodyB_eq (p : PassM) : bodyB p = [66, 80, 49] ++ (intB p.fl ++ (intB p.px ++ (intB p.sq ++ (textB (labelB p.num p.c) ++ [])))) := by
  unfold bodyB
  rw [ints_flat, texts_one]
  simp
theorem bodyB_inj {p q : PassM} (hp : rightM p = true) (hq : rightM q = true) (h : bodyB p = bodyB q) : p = q := by
  rw [bodyB_eq, bodyB_eq] at h
  have h := List.append_cancel_left h
  obtain ⟨h1, h⟩ := intB_inj h
  obtain ⟨h2, h⟩ := intB_inj h
  obtain ⟨h3, h⟩ := intB_inj h
  obtain ⟨h4, -⟩ := textB_inj h
  simp only [rightM, Bool.and_eq_true] at hp hq
  obtain ⟨h5, h6⟩ := labelB_inj hp.2 hq.2 h4
  obtain ⟨a, b, c, d, e⟩ := p
  obtain ⟨a', b', c', d', e'⟩ := q
  simp only at h1 h2 h3 h5 h6
  subst h1 h2 h3 h5 h6
  rfl
theorem bodyB_len (p : PassM) (hp : p.ok) : (bodyB p).length ≤ 100 := by
  have hl1 := ints_len [p.fl, p.px, p.sq] (by
    intro z hz
    simp only [List.mem_cons, List.mem_nil_iff, or_false] at hz
    rcases hz with rfl | rfl | rfl
    · exact hp.fl
    · exact hp.px
    · exact hp.sq)
  have hl3 := labelB_len p.num p.c
  have hl2 := texts_len [labelB p.num p.c] (by simp [sumLen]; omega)
  have hl4 : sumLen [labelB p.num p.c] = (labelB p.num p.c).length := by simp [sumLen]
  unfold bodyB
  simp only [List.length_append, List.length_cons, List.length_nil] at hl1 hl2 ⊢
  omega
def writeV (key : Bytes) (p : PassM) : Value := if rightM p then .tuple ⟨[Str (bodyB p ++ macB key (bodyB p)), .int .i64 0]⟩ else .tuple ⟨[Str [], .int .i64 32]⟩
set_option maxHeartbeats 1000000 in
theorem Write_spec {w : World} {key : Bytes} (p : PassM) (hp : p.ok) (hk : key.length ≤ 70368744177664) :
    Cl Tryd.prog f_pass_Write [Str key, passV p] w fun v w' => v = writeV key p ∧ St w [] [] w' := by
  have hS := St.start w
  refine en_pass_Write rfl ?_
  have hbl := bodyB_len p hp
  have hml := macB_len key (bodyB p)
  unfold writeV
  repeat (first | refine SemW.run tblOk ?_ | refine IntG.nw (by omega) ?_ | refine IntG.nu8 (by omega) ?_ | refine IntG.nu32 (by omega) ?_ | refine IntG.nu64 (by omega) ?_ | refine IntG.wr' rfl ?_ | refine Chk.mk (by omega) ?_ | (refine BrG.id ?_; first | with_reducible refine BrG.t ?_ | with_reducible refine BrG.f ?_ | with_reducible refine BrG.notG ?_ | with_reducible refine BrG.nn ?_ | with_reducible refine BrG.ns ?_ | refine BrG.pos (by omega) ?_ | refine BrG.neg (by omega) ?_ | with_reducible refine BrG.pos rfl ?_ | refine BrG.pos (by assumption) ?_ | refine BrG.neg (by assumption) ?_ | refine BrG.pos (by decide) ?_ | refine BrG.neg (by decide) ?_) | refine Chk.mk (ptr_ok tblOk rfl rfl) ?_ | refine Chk.mk (by decide) ?_)
  refine hS.al ?_
  intro b w1 _ hS
  repeat (first | refine SemW.run tblOk ?_ | refine IntG.nw (by omega) ?_ | refine IntG.nu8 (by omega) ?_ | refine IntG.nu32 (by omega) ?_ | refine IntG.nu64 (by omega) ?_ | refine IntG.wr' rfl ?_ | refine Chk.mk (by omega) ?_ | (refine BrG.id ?_; first | with_reducible refine BrG.t ?_ | with_reducible refine BrG.f ?_ | with_reducible refine BrG.notG ?_ | with_reducible refine BrG.nn ?_ | with_reducible refine BrG.ns ?_ | refine BrG.pos (by omega) ?_ | refine BrG.neg (by omega) ?_ | with_reducible refine BrG.pos rfl ?_ | refine BrG.pos (by assumption) ?_ | refine BrG.neg (by assumption) ?_ | refine BrG.pos (by decide) ?_ | refine BrG.neg (by decide) ?_) | refine Chk.mk (ptr_ok tblOk rfl rfl) ?_ | refine Chk.mk (by decide) ?_ | refine hS.ld rfl ?_ | refine hS.ldn rfl ?_ | (refine hS.st rfl rfl ?_; intro _ hS))
  refine Cl.mono (right_spec p hp) ?_
  rintro _ w2 ⟨rfl, hS'⟩
  have hS := hS.call0 hS'
  cases hr : rightM p with
  | false =>
    repeat (first | refine SemW.run tblOk ?_ | refine IntG.nw (by omega) ?_ | refine IntG.nu8 (by omega) ?_ | refine IntG.nu32 (by omega) ?_ | refine IntG.nu64 (by omega) ?_ | refine IntG.wr' rfl ?_ | refine Chk.mk (by omega) ?_ | (refine BrG.id ?_; first | with_reducible refine BrG.t ?_ | with_reducible refine BrG.f ?_ | with_reducible refine BrG.notG ?_ | with_reducible refine BrG.nn ?_ | with_reducible refine BrG.ns ?_ | refine BrG.pos (by omega) ?_ | refine BrG.neg (by omega) ?_ | with_reducible refine BrG.pos rfl ?_ | refine BrG.pos (by assumption) ?_ | refine BrG.neg (by assumption) ?_ | refine BrG.pos (by decide) ?_ | refine BrG.neg (by decide) ?_) | refine Chk.mk (ptr_ok tblOk rfl rfl) ?_ | refine Chk.mk (by decide) ?_ | refine hS.ld rfl ?_ | refine hS.ldn rfl ?_ | (refine hS.st rfl rfl ?_; intro _ hS))
    exact ⟨rfl, hS.nil⟩
  | true =>
    repeat (first | refine SemW.run tblOk ?_ | refine IntG.nw (by omega) ?_ | refine IntG.nu8 (by omega) ?_ | refine IntG.nu32 (by omega) ?_ | refine IntG.nu64 (by omega) ?_ | refine IntG.wr' rfl ?_ | refine Chk.mk (by omega) ?_ | (refine BrG.id ?_; first | with_reducible refine BrG.t ?_ | with_reducible refine BrG.f ?_ | with_reducible refine BrG.notG ?_ | with_reducible refine BrG.nn ?_ | with_reducible refine BrG.ns ?_ | refine BrG.pos (by omega) ?_ | refine BrG.neg (by omega) ?_ | with_reducible refine BrG.pos rfl ?_ | refine BrG.pos (by assumption) ?_ | refine BrG.neg (by assumption) ?_ | refine BrG.pos (by decide) ?_ | refine BrG.neg (by decide) ?_) | refine Chk.mk (ptr_ok tblOk rfl rfl) ?_ | refine Chk.mk (by decide) ?_ | refine hS.ld rfl ?_ | refine hS.ldn rfl ?_ | (refine hS.st rfl rfl ?_; intro _ hS))
    refine Cl.mono (body_spec p hp) ?_
    rintro _ w3 ⟨rfl, hS'⟩
    have hS := hS.call0 hS'
    obtain ⟨bd, hbd⟩ : ∃ bd, bd = bodyB p := ⟨_, rfl⟩
    rw [← hbd] at hbl hml ⊢
    have hsl : sumLen [bd] = bd.length := by simp [sumLen]
    have hfl : [bd].flatten = bd := by simp
    repeat (first | refine SemW.run tblOk ?_ | refine IntG.nw (by omega) ?_ | refine IntG.nu8 (by omega) ?_ | refine IntG.nu32 (by omega) ?_ | refine IntG.nu64 (by omega) ?_ | refine IntG.wr' rfl ?_ | refine Chk.mk (by omega) ?_ | (refine BrG.id ?_; first | with_reducible refine BrG.t ?_ | with_reducible refine BrG.f ?_ | with_reducible refine BrG.notG ?_ | with_reducible refine BrG.nn ?_ | with_reducible refine BrG.ns ?_ | refine BrG.pos (by omega) ?_ | refine BrG.neg (by omega) ?_ | with_reducible refine BrG.pos rfl ?_ | refine BrG.pos (by assumption) ?_ | refine BrG.neg (by assumption) ?_ | refine BrG.pos (by decide) ?_ | refine BrG.neg (by decide) ?_) | refine Chk.mk (ptr_ok tblOk rfl rfl) ?_ | refine Chk.mk (by decide) ?_ | refine hS.ld rfl ?_ | refine hS.ldn rfl ?_ | (refine hS.st rfl rfl ?_; intro _ hS))
    refine hS.al ?_
    intro r w4 _ hS
    repeat (first | refine SemW.run tblOk ?_ | refine IntG.nw (by omega) ?_ | refine IntG.nu8 (by omega) ?_ | refine IntG.nu32 (by omega) ?_ | refine IntG.nu64 (by omega) ?_ | refine IntG.wr' rfl ?_ | refine Chk.mk (by omega) ?_ | (refine BrG.id ?_; first | with_reducible refine BrG.t ?_ | with_reducible refine BrG.f ?_ | with_reducible refine BrG.notG ?_ | with_reducible refine BrG.nn ?_ | with_reducible refine BrG.ns ?_ | refine BrG.pos (by omega) ?_ | refine BrG.neg (by omega) ?_ | with_reducible refine BrG.pos rfl ?_ | refine BrG.pos (by assumption) ?_ | refine BrG.neg (by assumption) ?_ | refine BrG.pos (by decide) ?_ | refine BrG.neg (by decide) ?_) | refine Chk.mk (ptr_ok tblOk rfl rfl) ?_ | refine Chk.mk (by decide) ?_ | refine hS.ld rfl ?_ | refine hS.ldn rfl ?_ | (refine hS.st rfl rfl ?_; intro _ hS))
    refine Cl.mono (Mac_spec (ps := [bd]) (hS.arr (b := r) (by simp)) hk (by omega) (by simp)) ?_
    rintro _ w5 ⟨rfl, hS'⟩
    have hS := hS.call0 hS'
    rw [hfl]
    repeat (first | refine SemW.run tblOk ?_ | refine IntG.nw (by omega) ?_ | refine IntG.nu8 (by omega) ?_ | refine IntG.nu32 (by omega) ?_ | refine IntG.nu64 (by omega) ?_ | refine IntG.wr' rfl ?_ | refine Chk.mk (by omega) ?_ | (refine BrG.id ?_; first | with_reducible refine BrG.t ?_ | with_reducible refine BrG.f ?_ | with_reducible refine BrG.notG ?_ | with_reducible refine BrG.nn ?_ | with_reducible refine BrG.ns ?_ | refine BrG.pos (by omega) ?_ | refine BrG.neg (by omega) ?_ | with_reducible refine BrG.pos rfl ?_ | refine BrG.pos (by assumption) ?_ | refine BrG.neg (by assumption) ?_ | refine BrG.pos (by decide) ?_ | refine BrG.neg (by decide) ?_) | refine Chk.mk (ptr_ok tblOk rfl rfl) ?_ | refine Chk.mk (by decide) ?_ | refine hS.ld rfl ?_ | refine hS.ldn rfl ?_ | (refine hS.st rfl rfl ?_; intro _ hS))
    exact ⟨rfl, hS.nil⟩
end Go.Proofs.YtklppplnkpnbhaaDoor
