/- tarmaclaw20: lives, PassUnlike. -/
import Derived.Test.YtklppplnkpnbhaaDoorWrite
namespace Go.Proofs.YtklppplnkpnbhaaDoor
open Go Go.Eng Go.Proofs

def p0 : PassM := ⟨7, 3, 1, 12, 67⟩
theorem p0_right : rightM p0 = true := by decide
theorem p0_ok : p0.ok := ⟨by show i64ok 7; unfold i64ok; omega, by show i64ok 3; unfold i64ok; omega, by show i64ok 1; unfold i64ok; omega, by decide⟩
theorem intB_small (z : Nat) (h : z < 64) : intB (z : Int) = [UInt8.ofNat (2 * z)] := by
  have hz : zig (z : Int) = 2 * z := by unfold zig; rw [if_pos (by omega)]; rfl
  unfold intB; rw [hz, numB_lt (by omega)]
theorem p0_body : bodyB p0 = [66, 80, 49, 14, 6, 2, 3, 49, 50, 67] := by
  rw [bodyB_eq]
  have e1 : intB (7 : Int) = [14] := intB_small 7 (by omega)
  have e2 : intB (3 : Int) = [6] := intB_small 3 (by omega)
  have e3 : intB (1 : Int) = [2] := intB_small 1 (by omega)
  have e4 : labelB 12 67 = [49, 50, 67] := by decide
  show [66, 80, 49] ++ (intB 7 ++ (intB 3 ++ (intB 1 ++ (textB (labelB 12 67) ++ [])))) = _
  rw [e1, e2, e3, e4]
  unfold textB
  rw [numB_lt (by decide)]
  rfl
set_option maxHeartbeats 1000000 in
theorem lives_spec {w : World} : Cl Tryd.prog f_tarmaclaw20_lives [] w fun v w' => v = .bool true ∧ St w [] [] w' := by
  have hS := St.start w
  refine en_tarmaclaw20_lives rfl ?_
  repeat (first | refine SemW.run tblOk ?_ | refine IntG.nw (by omega) ?_ | refine IntG.nu8 (by omega) ?_ | refine IntG.nu32 (by omega) ?_ | refine IntG.nu64 (by omega) ?_ | refine IntG.wr' rfl ?_ | refine Chk.mk (by omega) ?_ | (refine BrG.id ?_; first | with_reducible refine BrG.t ?_ | with_reducible refine BrG.f ?_ | with_reducible refine BrG.notG ?_ | with_reducible refine BrG.nn ?_ | with_reducible refine BrG.ns ?_ | refine BrG.pos (by omega) ?_ | refine BrG.neg (by omega) ?_ | with_reducible refine BrG.pos rfl ?_ | refine BrG.pos (by assumption) ?_ | refine BrG.neg (by assumption) ?_ | refine BrG.pos (by decide) ?_ | refine BrG.neg (by decide) ?_) | refine Chk.mk (ptr_ok tblOk rfl rfl) ?_ | refine Chk.mk (by decide) ?_)
  refine Cl.mono (Write_spec (key := [107, 101, 121]) p0 p0_ok (by simp)) ?_
  rintro _ w1 ⟨rfl, hS'⟩
  have hS := hS.call0 hS'
  unfold writeV
  rw [if_pos p0_right, p0_body]
  have hml := macB_len [107, 101, 121] [66, 80, 49, 14, 6, 2, 3, 49, 50, 67]
  obtain ⟨x, hx⟩ : ∃ x, x = [66, 80, 49, 14, 6, 2, 3, 49, 50, 67] ++ macB [107, 101, 121] [66, 80, 49, 14, 6, 2, 3, 49, 50, 67] := ⟨_, rfl⟩
  have hxl : x.length = 42 := by rw [hx, List.length_append, hml]; rfl
  have hxt : x.take 10 = [66, 80, 49, 14, 6, 2, 3, 49, 50, 67] := by rw [hx]; exact List.take_left' rfl
  rw [← hx]
  repeat (first | refine SemW.run tblOk ?_ | refine IntG.nw (by omega) ?_ | refine IntG.nu8 (by omega) ?_ | refine IntG.nu32 (by omega) ?_ | refine IntG.nu64 (by omega) ?_ | refine IntG.wr' rfl ?_ | refine Chk.mk (by omega) ?_ | (refine BrG.id ?_; first | with_reducible refine BrG.t ?_ | with_reducible refine BrG.f ?_ | with_reducible refine BrG.notG ?_ | with_reducible refine BrG.nn ?_ | with_reducible refine BrG.ns ?_ | refine BrG.pos (by omega) ?_ | refine BrG.neg (by omega) ?_ | with_reducible refine BrG.pos rfl ?_ | refine BrG.pos (by assumption) ?_ | refine BrG.neg (by assumption) ?_ | refine BrG.pos (by decide) ?_ | refine BrG.neg (by decide) ?_) | refine Chk.mk (ptr_ok tblOk rfl rfl) ?_ | refine Chk.mk (by decide) ?_)
  refine ⟨congrArg Value.bool ?_, hS⟩
  simpa using hxt
theorem eqPass (p q : PassM) : EqV 3 Tryd.prog T_api_Pass (passV p) (passV q) (decide (p = q)) := by
  have h : EqV 3 Tryd.prog T_api_Pass (passV p) (passV q) (decide (p.fl = q.fl) && (decide (p.px = q.px) && (decide (p.sq = q.sq) && ((decide (p.num = q.num) && (decide ((p.c : Int) = (q.c : Int)) && true)) && true)))) := by
    refine EqV.struct (d := [(T_int, 0), (T_int, 1), (T_int, 2), (T_api_Seat, 3)]) (by kernel_rfl) (by kernel_rfl) (by kernel_rfl) ?_
    refine EqFs.cons (PartIs.one tblOk rfl rfl rfl) (PartIs.one tblOk rfl rfl rfl) (EqV.int tblOk rfl rfl _ _) ?_
    refine EqFs.cons (PartIs.one tblOk rfl rfl rfl) (PartIs.one tblOk rfl rfl rfl) (EqV.int tblOk rfl rfl _ _) ?_
    refine EqFs.cons (PartIs.one tblOk rfl rfl rfl) (PartIs.one tblOk rfl rfl rfl) (EqV.int tblOk rfl rfl _ _) ?_
    refine EqFs.cons (PartIs.agg tblOk rfl rfl rfl) (PartIs.agg tblOk rfl rfl rfl) ?_ EqFs.nil
    refine EqV.struct (d := [(T_int, 0), (T_uint8, 1)]) (by kernel_rfl) (by kernel_rfl) (by kernel_rfl) ?_
    refine EqFs.cons (PartIs.one tblOk rfl rfl rfl) (PartIs.one tblOk rfl rfl rfl) (EqV.int tblOk rfl rfl _ _) ?_
    exact EqFs.cons (PartIs.one tblOk rfl rfl rfl) (PartIs.one tblOk rfl rfl rfl) (EqV.int tblOk rfl rfl _ _) EqFs.nil
  have e : (decide (p = q)) = (decide (p.fl = q.fl) && (decide (p.px = q.px) && (decide (p.sq = q.sq) && ((decide (p.num = q.num) && (decide ((p.c : Int) = (q.c : Int)) && true)) && true)))) := by
    obtain ⟨a, b, c, d, e⟩ := p
    obtain ⟨a', b', c', d', e'⟩ := q
    rw [Bool.eq_iff_iff]
    simp [PassM.mk.injEq]
    omega
  rw [e]; exact h
set_option maxHeartbeats 4000000 in
set_option maxRecDepth 4000 in
theorem PassUnlike_spec {w : World} {key : Bytes} (p q : PassM) (hp : p.ok) (hq : q.ok) (hk : key.length ≤ 70368744177664) :
    Cl Tryd.prog f_tarmaclaw20_PassUnlike [Str key, passV p, passV q] w fun v w' => v = .bool true ∧ St w [] [] w' := by
  have hS := St.start w
  have hbl := bodyB_len p hp
  have hbl2 := bodyB_len q hq
  have hml := macB_len key (bodyB p)
  have hml2 := macB_len [111, 116, 104, 101, 114] (bodyB q)
  refine en_tarmaclaw20_PassUnlike rfl ?_
  repeat (first | refine SemW.run tblOk ?_ | refine IntG.nw (by omega) ?_ | refine IntG.nu8 (by omega) ?_ | refine IntG.nu32 (by omega) ?_ | refine IntG.nu64 (by omega) ?_ | refine IntG.wr' rfl ?_ | refine Chk.mk (by omega) ?_ | (refine BrG.id ?_; first | with_reducible refine BrG.t ?_ | with_reducible refine BrG.f ?_ | with_reducible refine BrG.notG ?_ | with_reducible refine BrG.nn ?_ | with_reducible refine BrG.ns ?_ | refine BrG.pos (by omega) ?_ | refine BrG.neg (by omega) ?_ | with_reducible refine BrG.pos rfl ?_ | refine BrG.pos (by assumption) ?_ | refine BrG.neg (by assumption) ?_ | refine BrG.pos (by decide) ?_ | refine BrG.neg (by decide) ?_) | refine Chk.mk (ptr_ok tblOk rfl rfl) ?_ | refine Chk.mk (by decide) ?_)
  refine hS.al ?_
  intro b4 w1 _ hS
  repeat (first | refine SemW.run tblOk ?_ | refine IntG.nw (by omega) ?_ | refine IntG.nu8 (by omega) ?_ | refine IntG.nu32 (by omega) ?_ | refine IntG.nu64 (by omega) ?_ | refine IntG.wr' rfl ?_ | refine Chk.mk (by omega) ?_ | (refine BrG.id ?_; first | with_reducible refine BrG.t ?_ | with_reducible refine BrG.f ?_ | with_reducible refine BrG.notG ?_ | with_reducible refine BrG.nn ?_ | with_reducible refine BrG.ns ?_ | refine BrG.pos (by omega) ?_ | refine BrG.neg (by omega) ?_ | with_reducible refine BrG.pos rfl ?_ | refine BrG.pos (by assumption) ?_ | refine BrG.neg (by assumption) ?_ | refine BrG.pos (by decide) ?_ | refine BrG.neg (by decide) ?_) | refine Chk.mk (ptr_ok tblOk rfl rfl) ?_ | refine Chk.mk (by decide) ?_)
  refine hS.al ?_
  intro b5 w2 _ hS
  repeat (first | refine SemW.run tblOk ?_ | refine IntG.nw (by omega) ?_ | refine IntG.nu8 (by omega) ?_ | refine IntG.nu32 (by omega) ?_ | refine IntG.nu64 (by omega) ?_ | refine IntG.wr' rfl ?_ | refine Chk.mk (by omega) ?_ | (refine BrG.id ?_; first | with_reducible refine BrG.t ?_ | with_reducible refine BrG.f ?_ | with_reducible refine BrG.notG ?_ | with_reducible refine BrG.nn ?_ | with_reducible refine BrG.ns ?_ | refine BrG.pos (by omega) ?_ | refine BrG.neg (by omega) ?_ | with_reducible refine BrG.pos rfl ?_ | refine BrG.pos (by assumption) ?_ | refine BrG.neg (by assumption) ?_ | refine BrG.pos (by decide) ?_ | refine BrG.neg (by decide) ?_) | refine Chk.mk (ptr_ok tblOk rfl rfl) ?_ | refine Chk.mk (by decide) ?_)
  refine Cl.mono lives_spec ?_
  rintro _ w3 ⟨rfl, hS'⟩
  have hS := hS.call0 hS'
  repeat (first | refine SemW.run tblOk ?_ | refine IntG.nw (by omega) ?_ | refine IntG.nu8 (by omega) ?_ | refine IntG.nu32 (by omega) ?_ | refine IntG.nu64 (by omega) ?_ | refine IntG.wr' rfl ?_ | refine Chk.mk (by omega) ?_ | (refine BrG.id ?_; first | with_reducible refine BrG.t ?_ | with_reducible refine BrG.f ?_ | with_reducible refine BrG.notG ?_ | with_reducible refine BrG.nn ?_ | with_reducible refine BrG.ns ?_ | refine BrG.pos (by omega) ?_ | refine BrG.neg (by omega) ?_ | with_reducible refine BrG.pos rfl ?_ | refine BrG.pos (by assumption) ?_ | refine BrG.neg (by assumption) ?_ | refine BrG.pos (by decide) ?_ | refine BrG.neg (by decide) ?_) | refine Chk.mk (ptr_ok tblOk rfl rfl) ?_ | refine Chk.mk (by decide) ?_ | refine hS.ld rfl ?_ | refine hS.ldn rfl ?_ | (refine hS.st rfl rfl ?_; intro _ hS))
  refine Cl.mono (Write_spec p hp hk) ?_
  rintro _ w4 ⟨rfl, hS'⟩
  have hS := hS.call0 hS'
  obtain ⟨x, hx⟩ : ∃ x, x = bodyB p ++ macB key (bodyB p) := ⟨_, rfl⟩
  obtain ⟨y, hy⟩ : ∃ y, y = bodyB q ++ macB [111, 116, 104, 101, 114] (bodyB q) := ⟨_, rfl⟩
  have hxl : x.length = (bodyB p).length + 32 := by rw [hx, List.length_append, hml]
  have hyl : y.length = (bodyB q).length + 32 := by rw [hy, List.length_append, hml2]
  have hpx : x.take (bodyB p).length = bodyB p := by rw [hx]; exact List.take_left' rfl
  have hqy : y.take (bodyB q).length = bodyB q := by rw [hy]; exact List.take_left' rfl
  have hwq : writeV [111, 116, 104, 101, 114] q = if rightM q then .tuple ⟨[Str y, .int .i64 0]⟩ else .tuple ⟨[Str [], .int .i64 32]⟩ := by unfold writeV; rw [hy]
  unfold writeV
  rw [← hx]
  cases hrp : rightM p with
  | false =>
    simp only [Bool.false_eq_true, if_false]
    repeat (first | refine SemW.run tblOk ?_ | refine IntG.nw (by omega) ?_ | refine IntG.nu8 (by omega) ?_ | refine IntG.nu32 (by omega) ?_ | refine IntG.nu64 (by omega) ?_ | refine IntG.wr' rfl ?_ | refine Chk.mk (by omega) ?_ | (refine BrG.id ?_; first | with_reducible refine BrG.t ?_ | with_reducible refine BrG.f ?_ | with_reducible refine BrG.notG ?_ | with_reducible refine BrG.nn ?_ | with_reducible refine BrG.ns ?_ | refine BrG.pos (by omega) ?_ | refine BrG.neg (by omega) ?_ | with_reducible refine BrG.pos rfl ?_ | refine BrG.pos (by assumption) ?_ | refine BrG.neg (by assumption) ?_ | refine BrG.pos (by decide) ?_ | refine BrG.neg (by decide) ?_) | refine Chk.mk (ptr_ok tblOk rfl rfl) ?_ | refine Chk.mk (by decide) ?_ | refine hS.ld rfl ?_ | refine hS.ldn rfl ?_ | (refine hS.st rfl rfl ?_; intro _ hS))
    refine Cl.mono (Write_spec (key := [111, 116, 104, 101, 114]) q hq (by simp)) ?_
    rintro _ w5 ⟨rfl, hS'⟩
    have hS := hS.call0 hS'
    rw [hwq]
    cases hrq : rightM q with
    | false =>
      simp only [Bool.false_eq_true, if_false]
      repeat (first | refine SemW.run tblOk ?_ | refine IntG.nw (by omega) ?_ | refine IntG.nu8 (by omega) ?_ | refine IntG.nu32 (by omega) ?_ | refine IntG.nu64 (by omega) ?_ | refine IntG.wr' rfl ?_ | refine Chk.mk (by omega) ?_ | (refine BrG.id ?_; first | with_reducible refine BrG.t ?_ | with_reducible refine BrG.f ?_ | with_reducible refine BrG.notG ?_ | with_reducible refine BrG.nn ?_ | with_reducible refine BrG.ns ?_ | refine BrG.pos (by omega) ?_ | refine BrG.neg (by omega) ?_ | with_reducible refine BrG.pos rfl ?_ | refine BrG.pos (by assumption) ?_ | refine BrG.neg (by assumption) ?_ | refine BrG.pos (by decide) ?_ | refine BrG.neg (by decide) ?_) | refine Chk.mk (ptr_ok tblOk rfl rfl) ?_ | refine Chk.mk (by decide) ?_ | refine hS.ld rfl ?_ | refine hS.ldn rfl ?_ | (refine hS.st rfl rfl ?_; intro _ hS))
      exact ⟨rfl, hS.nil⟩
    | true =>
      simp only [if_true]
      repeat (first | refine SemW.run tblOk ?_ | refine IntG.nw (by omega) ?_ | refine IntG.nu8 (by omega) ?_ | refine IntG.nu32 (by omega) ?_ | refine IntG.nu64 (by omega) ?_ | refine IntG.wr' rfl ?_ | refine Chk.mk (by omega) ?_ | (refine BrG.id ?_; first | with_reducible refine BrG.t ?_ | with_reducible refine BrG.f ?_ | with_reducible refine BrG.notG ?_ | with_reducible refine BrG.nn ?_ | with_reducible refine BrG.ns ?_ | refine BrG.pos (by omega) ?_ | refine BrG.neg (by omega) ?_ | with_reducible refine BrG.pos rfl ?_ | refine BrG.pos (by assumption) ?_ | refine BrG.neg (by assumption) ?_ | refine BrG.pos (by decide) ?_ | refine BrG.neg (by decide) ?_) | refine Chk.mk (ptr_ok tblOk rfl rfl) ?_ | refine Chk.mk (by decide) ?_ | refine hS.ld rfl ?_ | refine hS.ldn rfl ?_ | (refine hS.st rfl rfl ?_; intro _ hS))
      exact ⟨rfl, hS.nil⟩
  | true =>
    simp only [if_true]
    repeat (first | refine SemW.run tblOk ?_ | refine IntG.nw (by omega) ?_ | refine IntG.nu8 (by omega) ?_ | refine IntG.nu32 (by omega) ?_ | refine IntG.nu64 (by omega) ?_ | refine IntG.wr' rfl ?_ | refine Chk.mk (by omega) ?_ | (refine BrG.id ?_; first | with_reducible refine BrG.t ?_ | with_reducible refine BrG.f ?_ | with_reducible refine BrG.notG ?_ | with_reducible refine BrG.nn ?_ | with_reducible refine BrG.ns ?_ | refine BrG.pos (by omega) ?_ | refine BrG.neg (by omega) ?_ | with_reducible refine BrG.pos rfl ?_ | refine BrG.pos (by assumption) ?_ | refine BrG.neg (by assumption) ?_ | refine BrG.pos (by decide) ?_ | refine BrG.neg (by decide) ?_) | refine Chk.mk (ptr_ok tblOk rfl rfl) ?_ | refine Chk.mk (by decide) ?_ | refine hS.ld rfl ?_ | refine hS.ldn rfl ?_ | (refine hS.st rfl rfl ?_; intro _ hS))
    refine Cl.mono (Write_spec (key := [111, 116, 104, 101, 114]) q hq (by simp)) ?_
    rintro _ w5 ⟨rfl, hS'⟩
    have hS := hS.call0 hS'
    rw [hwq]
    cases hrq : rightM q with
    | false =>
      simp only [Bool.false_eq_true, if_false]
      repeat (first | refine SemW.run tblOk ?_ | refine IntG.nw (by omega) ?_ | refine IntG.nu8 (by omega) ?_ | refine IntG.nu32 (by omega) ?_ | refine IntG.nu64 (by omega) ?_ | refine IntG.wr' rfl ?_ | refine Chk.mk (by omega) ?_ | (refine BrG.id ?_; first | with_reducible refine BrG.t ?_ | with_reducible refine BrG.f ?_ | with_reducible refine BrG.notG ?_ | with_reducible refine BrG.nn ?_ | with_reducible refine BrG.ns ?_ | refine BrG.pos (by omega) ?_ | refine BrG.neg (by omega) ?_ | with_reducible refine BrG.pos rfl ?_ | refine BrG.pos (by assumption) ?_ | refine BrG.neg (by assumption) ?_ | refine BrG.pos (by decide) ?_ | refine BrG.neg (by decide) ?_) | refine Chk.mk (ptr_ok tblOk rfl rfl) ?_ | refine Chk.mk (by decide) ?_ | refine hS.ld rfl ?_ | refine hS.ldn rfl ?_ | (refine hS.st rfl rfl ?_; intro _ hS))
      exact ⟨rfl, hS.nil⟩
    | true =>
      simp only [if_true]
      repeat (first | refine SemW.run tblOk ?_ | refine IntG.nw (by omega) ?_ | refine IntG.nu8 (by omega) ?_ | refine IntG.nu32 (by omega) ?_ | refine IntG.nu64 (by omega) ?_ | refine IntG.wr' rfl ?_ | refine Chk.mk (by omega) ?_ | (refine BrG.id ?_; first | with_reducible refine BrG.t ?_ | with_reducible refine BrG.f ?_ | with_reducible refine BrG.notG ?_ | with_reducible refine BrG.nn ?_ | with_reducible refine BrG.ns ?_ | refine BrG.pos (by omega) ?_ | refine BrG.neg (by omega) ?_ | with_reducible refine BrG.pos rfl ?_ | refine BrG.pos (by assumption) ?_ | refine BrG.neg (by assumption) ?_ | refine BrG.pos (by decide) ?_ | refine BrG.neg (by decide) ?_) | refine Chk.mk (ptr_ok tblOk rfl rfl) ?_ | refine Chk.mk (by decide) ?_ | refine hS.ld rfl ?_ | refine hS.ldn rfl ?_ | (refine hS.st rfl rfl ?_; intro _ hS))
      refine SemW.draw tblOk mixed (fun w' => St w [] ((b5, .cells ⟨[.int .i64 q.fl, .int .i64 q.px, .int .i64 q.sq, .int .i64 q.num, .int .u8 q.c]⟩ T_api_Pass (0, 0)) :: (b4, .cells ⟨[.int .i64 p.fl, .int .i64 p.px, .int .i64 p.sq, .int .i64 p.num, .int .u8 p.c]⟩ T_api_Pass (0, 0)) :: []) w') [] [0, 1, 2, 3, 4, 5, 6, 7, 8, 9, 10, 11, 12, 13, 14, 15] (by kernel_rfl) hS.drew ?_
      have hS := hS.drew
      repeat (first | refine SemW.run tblOk ?_ | refine IntG.nw (by omega) ?_ | refine IntG.nu8 (by omega) ?_ | refine IntG.nu32 (by omega) ?_ | refine IntG.nu64 (by omega) ?_ | refine IntG.wr' rfl ?_ | refine Chk.mk (by omega) ?_ | (refine BrG.id ?_; first | with_reducible refine BrG.t ?_ | with_reducible refine BrG.f ?_ | with_reducible refine BrG.notG ?_ | with_reducible refine BrG.nn ?_ | with_reducible refine BrG.ns ?_ | refine BrG.pos (by omega) ?_ | refine BrG.neg (by omega) ?_ | with_reducible refine BrG.pos rfl ?_ | refine BrG.pos (by assumption) ?_ | refine BrG.neg (by assumption) ?_ | refine BrG.pos (by decide) ?_ | refine BrG.neg (by decide) ?_) | refine Chk.mk (ptr_ok tblOk rfl rfl) ?_ | refine Chk.mk (by decide) ?_ | refine hS.ldC rfl ?_ | refine hS.ldnC rfl ?_)
      refine eqlAgg (n := 3) (by omega) (by kernel_rfl) (eqPass p q) ?_
      repeat (first | refine SemW.run tblOk ?_ | refine IntG.nw (by omega) ?_ | refine IntG.nu8 (by omega) ?_ | refine IntG.nu32 (by omega) ?_ | refine IntG.nu64 (by omega) ?_ | refine IntG.wr' rfl ?_ | refine Chk.mk (by omega) ?_ | (refine BrG.id ?_; first | with_reducible refine BrG.t ?_ | with_reducible refine BrG.f ?_ | with_reducible refine BrG.notG ?_ | with_reducible refine BrG.nn ?_ | with_reducible refine BrG.ns ?_ | refine BrG.pos (by omega) ?_ | refine BrG.neg (by omega) ?_ | with_reducible refine BrG.pos rfl ?_ | refine BrG.pos (by assumption) ?_ | refine BrG.neg (by assumption) ?_ | refine BrG.pos (by decide) ?_ | refine BrG.neg (by decide) ?_) | refine Chk.mk (ptr_ok tblOk rfl rfl) ?_ | refine Chk.mk (by decide) ?_ | refine hS.ldC rfl ?_ | refine hS.ldnC rfl ?_)
      refine Chk.mk (und_of tblOk (t := T_bool) rfl) ?_
      repeat (first | refine SemW.run tblOk ?_ | refine IntG.nw (by omega) ?_ | refine IntG.nu8 (by omega) ?_ | refine IntG.nu32 (by omega) ?_ | refine IntG.nu64 (by omega) ?_ | refine IntG.wr' rfl ?_ | refine Chk.mk (by omega) ?_ | (refine BrG.id ?_; first | with_reducible refine BrG.t ?_ | with_reducible refine BrG.f ?_ | with_reducible refine BrG.notG ?_ | with_reducible refine BrG.nn ?_ | with_reducible refine BrG.ns ?_ | refine BrG.pos (by omega) ?_ | refine BrG.neg (by omega) ?_ | with_reducible refine BrG.pos rfl ?_ | refine BrG.pos (by assumption) ?_ | refine BrG.neg (by assumption) ?_ | refine BrG.pos (by decide) ?_ | refine BrG.neg (by decide) ?_) | refine Chk.mk (ptr_ok tblOk rfl rfl) ?_ | refine Chk.mk (by decide) ?_ | refine hS.ldC rfl ?_ | refine hS.ldnC rfl ?_)
      refine ⟨congrArg Value.bool ?_, hS.nil⟩
      have e1 : ((x.length : Int) - 32).toNat = (bodyB p).length := by omega
      have e2 : ((y.length : Int) - 32).toNat = (bodyB q).length := by omega
      rw [e1, e2, hpx, hqy]
      have e3 : decide (bodyB p = bodyB q) = decide (p = q) := by
        rw [Bool.eq_iff_iff]
        simp only [decide_eq_true_eq]
        exact ⟨bodyB_inj hrp hrq, fun h => by rw [h]⟩
      rw [e3]
      simp
end Go.Proofs.YtklppplnkpnbhaaDoor
