/- Package pass: Read. -/
import Derived.Test.YtklppplnkpnbhaaDoorRead
import Derived.Test.YtklppplnkpnbhaaDoorParse
import Derived.Test.YtklppplnkpnbhaaDoorWrite
namespace Go.Proofs.YtklppplnkpnbhaaDoor
open Go Go.Eng Go.Proofs

set_option maxHeartbeats 1000000 in
theorem HasPrefix_spec {w : World} {s p : Bytes} : Cl Tryd.prog f_internal_stringslite_HasPrefix [Str s, Str p] w fun v w' => v = .bool (decide (s.take p.length = p)) ∧ St w [] [] w' := by
  have hS := St.start w
  refine en_internal_stringslite_HasPrefix rfl ?_
  by_cases h : p.length ≤ s.length
  · repeat (first | refine SemW.run tblOk ?_ | refine IntG.nw (by omega) ?_ | refine IntG.nu8 (by omega) ?_ | refine IntG.nu32 (by omega) ?_ | refine IntG.nu64 (by omega) ?_ | refine IntG.wr' rfl ?_ | refine Chk.mk (by omega) ?_ | (refine BrG.id ?_; first | with_reducible refine BrG.t ?_ | with_reducible refine BrG.f ?_ | with_reducible refine BrG.notG ?_ | with_reducible refine BrG.nn ?_ | with_reducible refine BrG.ns ?_ | refine BrG.pos (by omega) ?_ | refine BrG.neg (by omega) ?_ | with_reducible refine BrG.pos rfl ?_ | refine BrG.pos (by assumption) ?_ | refine BrG.neg (by assumption) ?_ | refine BrG.pos (by decide) ?_ | refine BrG.neg (by decide) ?_) | refine Chk.mk (ptr_ok tblOk rfl rfl) ?_ | refine Chk.mk (by decide) ?_)
    exact ⟨rfl, hS⟩
  · have hd : decide (s.take p.length = p) = false := by
      refine decide_eq_false fun hh => ?_
      have := congrArg List.length hh
      simp at this; omega
    rw [hd]
    repeat (first | refine SemW.run tblOk ?_ | refine IntG.nw (by omega) ?_ | refine IntG.nu8 (by omega) ?_ | refine IntG.nu32 (by omega) ?_ | refine IntG.nu64 (by omega) ?_ | refine IntG.wr' rfl ?_ | refine Chk.mk (by omega) ?_ | (refine BrG.id ?_; first | with_reducible refine BrG.t ?_ | with_reducible refine BrG.f ?_ | with_reducible refine BrG.notG ?_ | with_reducible refine BrG.nn ?_ | with_reducible refine BrG.ns ?_ | refine BrG.pos (by omega) ?_ | refine BrG.neg (by omega) ?_ | with_reducible refine BrG.pos rfl ?_ | refine BrG.pos (by assumption) ?_ | refine BrG.neg (by assumption) ?_ | refine BrG.pos (by decide) ?_ | refine BrG.neg (by decide) ?_) | refine Chk.mk (ptr_ok tblOk rfl rfl) ?_ | refine Chk.mk (by decide) ?_)
    exact ⟨rfl, hS⟩
def cutO (s p : Bytes) : Bytes × Bool := if s.take p.length = p then (s.drop p.length, true) else (s, false)
set_option maxHeartbeats 1000000 in
theorem CutPrefix_spec {w : World} {s p : Bytes} : Cl Tryd.prog f_strings_CutPrefix [Str s, Str p] w fun v w' => v = .tuple ⟨[Str (cutO s p).1, .bool (cutO s p).2]⟩ ∧ St w [] [] w' := by
  have hS := St.start w
  refine en_strings_CutPrefix rfl ?_
  repeat (first | refine SemW.run tblOk ?_ | refine IntG.nw (by omega) ?_ | refine IntG.nu8 (by omega) ?_ | refine IntG.nu32 (by omega) ?_ | refine IntG.nu64 (by omega) ?_ | refine IntG.wr' rfl ?_ | refine Chk.mk (by omega) ?_ | (refine BrG.id ?_; first | with_reducible refine BrG.t ?_ | with_reducible refine BrG.f ?_ | with_reducible refine BrG.notG ?_ | with_reducible refine BrG.nn ?_ | with_reducible refine BrG.ns ?_ | refine BrG.pos (by omega) ?_ | refine BrG.neg (by omega) ?_ | with_reducible refine BrG.pos rfl ?_ | refine BrG.pos (by assumption) ?_ | refine BrG.neg (by assumption) ?_ | refine BrG.pos (by decide) ?_ | refine BrG.neg (by decide) ?_) | refine Chk.mk (ptr_ok tblOk rfl rfl) ?_ | refine Chk.mk (by decide) ?_)
  refine Cl.mono (P := Tryd.prog) (R := fun v w' => v = .tuple ⟨[Str (cutO s p).1, .bool (cutO s p).2]⟩ ∧ St w [] [] w') ?_ ?_
  · refine en_internal_stringslite_CutPrefix rfl ?_
    repeat (first | refine SemW.run tblOk ?_ | refine IntG.nw (by omega) ?_ | refine IntG.nu8 (by omega) ?_ | refine IntG.nu32 (by omega) ?_ | refine IntG.nu64 (by omega) ?_ | refine IntG.wr' rfl ?_ | refine Chk.mk (by omega) ?_ | (refine BrG.id ?_; first | with_reducible refine BrG.t ?_ | with_reducible refine BrG.f ?_ | with_reducible refine BrG.notG ?_ | with_reducible refine BrG.nn ?_ | with_reducible refine BrG.ns ?_ | refine BrG.pos (by omega) ?_ | refine BrG.neg (by omega) ?_ | with_reducible refine BrG.pos rfl ?_ | refine BrG.pos (by assumption) ?_ | refine BrG.neg (by assumption) ?_ | refine BrG.pos (by decide) ?_ | refine BrG.neg (by decide) ?_) | refine Chk.mk (ptr_ok tblOk rfl rfl) ?_ | refine Chk.mk (by decide) ?_)
    refine Cl.mono HasPrefix_spec ?_
    rintro _ w1 ⟨rfl, hS⟩
    unfold cutO
    by_cases h : s.take p.length = p
    · have hl : p.length ≤ s.length := by
        have := congrArg List.length h
        simp at this; omega
      rw [if_pos h]
      repeat (first | refine SemW.run tblOk ?_ | refine IntG.nw (by omega) ?_ | refine IntG.nu8 (by omega) ?_ | refine IntG.nu32 (by omega) ?_ | refine IntG.nu64 (by omega) ?_ | refine IntG.wr' rfl ?_ | refine Chk.mk (by omega) ?_ | (refine BrG.id ?_; first | with_reducible refine BrG.t ?_ | with_reducible refine BrG.f ?_ | with_reducible refine BrG.notG ?_ | with_reducible refine BrG.nn ?_ | with_reducible refine BrG.ns ?_ | refine BrG.pos (by omega) ?_ | refine BrG.neg (by omega) ?_ | with_reducible refine BrG.pos rfl ?_ | refine BrG.pos (by assumption) ?_ | refine BrG.neg (by assumption) ?_ | refine BrG.pos (by decide) ?_ | refine BrG.neg (by decide) ?_) | refine Chk.mk (ptr_ok tblOk rfl rfl) ?_ | refine Chk.mk (by decide) ?_)
      exact ⟨rfl, hS⟩
    · rw [if_neg h]
      repeat (first | refine SemW.run tblOk ?_ | refine IntG.nw (by omega) ?_ | refine IntG.nu8 (by omega) ?_ | refine IntG.nu32 (by omega) ?_ | refine IntG.nu64 (by omega) ?_ | refine IntG.wr' rfl ?_ | refine Chk.mk (by omega) ?_ | (refine BrG.id ?_; first | with_reducible refine BrG.t ?_ | with_reducible refine BrG.f ?_ | with_reducible refine BrG.notG ?_ | with_reducible refine BrG.nn ?_ | with_reducible refine BrG.ns ?_ | refine BrG.pos (by omega) ?_ | refine BrG.neg (by omega) ?_ | with_reducible refine BrG.pos rfl ?_ | refine BrG.pos (by assumption) ?_ | refine BrG.neg (by assumption) ?_ | refine BrG.pos (by decide) ?_ | refine BrG.neg (by decide) ?_) | refine Chk.mk (ptr_ok tblOk rfl rfl) ?_ | refine Chk.mk (by decide) ?_)
      exact ⟨rfl, hS⟩
  · rintro _ w1 ⟨rfl, hS⟩
    repeat (first | refine SemW.run tblOk ?_ | refine IntG.nw (by omega) ?_ | refine IntG.nu8 (by omega) ?_ | refine IntG.nu32 (by omega) ?_ | refine IntG.nu64 (by omega) ?_ | refine IntG.wr' rfl ?_ | refine Chk.mk (by omega) ?_ | (refine BrG.id ?_; first | with_reducible refine BrG.t ?_ | with_reducible refine BrG.f ?_ | with_reducible refine BrG.notG ?_ | with_reducible refine BrG.nn ?_ | with_reducible refine BrG.ns ?_ | refine BrG.pos (by omega) ?_ | refine BrG.neg (by omega) ?_ | with_reducible refine BrG.pos rfl ?_ | refine BrG.pos (by assumption) ?_ | refine BrG.neg (by assumption) ?_ | refine BrG.pos (by decide) ?_ | refine BrG.neg (by decide) ?_) | refine Chk.mk (ptr_ok tblOk rfl rfl) ?_ | refine Chk.mk (by decide) ?_)
    exact ⟨rfl, hS⟩
abbrev rrC (b : Nat) (bad : Bool) : Obj := .cells ⟨[ptr b, .bool bad]⟩ T_pass_reader (0, 0)
set_option maxHeartbeats 1000000 in
theorem rnum_spec {w : World} {rb b : Nat} {bad : Bool} {t : Bytes} (hh : Holds [(rb, rrC b bad), (b, rdC t)] w) (ht : t.length ≤ 70368744177664) :
    Cl Tryd.prog f_pass_reader_num [ptr rb] w fun v w' => v = .int .i64 (intO t).1 ∧ St w [rb, b] [(rb, rrC b (bad || decide ((intO t).2.1 ≠ 0))), (b, rdC (intO t).2.2)] w' := by
  have hS : St w [rb, b] [(rb, rrC b bad), (b, rdC t)] w := St.enter hh
  refine en_pass_reader_num rfl ?_
  repeat (first | refine SemW.run tblOk ?_ | refine IntG.nw (by omega) ?_ | refine IntG.nu8 (by omega) ?_ | refine IntG.nu32 (by omega) ?_ | refine IntG.nu64 (by omega) ?_ | refine IntG.wr' rfl ?_ | refine Chk.mk (by omega) ?_ | (refine BrG.id ?_; first | with_reducible refine BrG.t ?_ | with_reducible refine BrG.f ?_ | with_reducible refine BrG.notG ?_ | with_reducible refine BrG.nn ?_ | with_reducible refine BrG.ns ?_ | refine BrG.pos (by omega) ?_ | refine BrG.neg (by omega) ?_ | with_reducible refine BrG.pos rfl ?_ | refine BrG.pos (by assumption) ?_ | refine BrG.neg (by assumption) ?_ | refine BrG.pos (by decide) ?_ | refine BrG.neg (by decide) ?_) | refine Chk.mk (ptr_ok tblOk rfl rfl) ?_ | refine Chk.mk (by decide) ?_ | refine hS.ld rfl ?_ | refine hS.ldn rfl ?_ | (refine hS.st rfl rfl ?_; intro _ hS))
  refine Cl.mono (RInt_spec (hS.part (L := [(b, rdC t)])) ht) ?_
  rintro _ w1 ⟨rfl, hS'⟩
  have hS := hS.call (L := [(b, rdC t)]) hS'
  generalize intO t = x at hS ⊢
  obtain ⟨z, e, r⟩ := x
  simp only at hS ⊢
  cases bad with
  | true =>
    repeat (first | refine SemW.run tblOk ?_ | refine IntG.nw (by omega) ?_ | refine IntG.nu8 (by omega) ?_ | refine IntG.nu32 (by omega) ?_ | refine IntG.nu64 (by omega) ?_ | refine IntG.wr' rfl ?_ | refine Chk.mk (by omega) ?_ | (refine BrG.id ?_; first | with_reducible refine BrG.t ?_ | with_reducible refine BrG.f ?_ | with_reducible refine BrG.notG ?_ | with_reducible refine BrG.nn ?_ | with_reducible refine BrG.ns ?_ | refine BrG.pos (by omega) ?_ | refine BrG.neg (by omega) ?_ | with_reducible refine BrG.pos rfl ?_ | refine BrG.pos (by assumption) ?_ | refine BrG.neg (by assumption) ?_ | refine BrG.pos (by decide) ?_ | refine BrG.neg (by decide) ?_) | refine Chk.mk (ptr_ok tblOk rfl rfl) ?_ | refine Chk.mk (by decide) ?_ | refine hS.ld rfl ?_ | refine hS.ldn rfl ?_ | (refine hS.st rfl rfl ?_; intro _ hS))
    exact ⟨rfl, hS⟩
  | false =>
    repeat (first | refine SemW.run tblOk ?_ | refine IntG.nw (by omega) ?_ | refine IntG.nu8 (by omega) ?_ | refine IntG.nu32 (by omega) ?_ | refine IntG.nu64 (by omega) ?_ | refine IntG.wr' rfl ?_ | refine Chk.mk (by omega) ?_ | (refine BrG.id ?_; first | with_reducible refine BrG.t ?_ | with_reducible refine BrG.f ?_ | with_reducible refine BrG.notG ?_ | with_reducible refine BrG.nn ?_ | with_reducible refine BrG.ns ?_ | refine BrG.pos (by omega) ?_ | refine BrG.neg (by omega) ?_ | with_reducible refine BrG.pos rfl ?_ | refine BrG.pos (by assumption) ?_ | refine BrG.neg (by assumption) ?_ | refine BrG.pos (by decide) ?_ | refine BrG.neg (by decide) ?_) | refine Chk.mk (ptr_ok tblOk rfl rfl) ?_ | refine Chk.mk (by decide) ?_ | refine hS.ld rfl ?_ | refine hS.ldn rfl ?_ | (refine hS.st rfl rfl ?_; intro _ hS))
    refine ⟨rfl, ?_⟩
    have e1 : (false || decide (e ≠ 0)) = !decide (e = 0) := by simp
    rw [e1]; exact hS
theorem ErrVars.rd {w : World} (h : ErrVars w) {rb b : Nat} {bad : Bool} {t : Bytes} (hh : Holds [(rb, rrC b bad), (b, rdC t)] w) : errG0 ∉ [rb, b] ∧ errG1 ∉ [rb, b] := by
  obtain ⟨h1, h2⟩ := h.apart (hh.own (rb, rrC b bad) (by simp)) (by intro t p e; cases e)
  obtain ⟨h3, h4⟩ := h.apart (hh.own (b, rdC t) (by simp)) (by intro t p e; cases e)
  simp only [List.mem_cons, List.mem_nil_iff, or_false]
  omega
set_option maxHeartbeats 1000000 in
theorem rseat_spec {w : World} {rb b : Nat} {bad : Bool} {t : Bytes} (hh : Holds [(rb, rrC b bad), (b, rdC t)] w) (ht : t.length ≤ 70368744177664) (hE : ErrVars w) :
    Cl Tryd.prog f_pass_reader_seat [ptr rb] w fun v w' => v = seatAt (parseO (textO t).1).1 (parseO (textO t).1).2.1 ∧
      St w [rb, b] [(rb, rrC b (bad || decide ((textO t).2.1 ≠ 0) || !(parseO (textO t).1).2.2)), (b, rdC (textO t).2.2)] w' := by
  have hS : St w [rb, b] [(rb, rrC b bad), (b, rdC t)] w := St.enter hh
  obtain ⟨hg0, hg1⟩ := hE.rd hh
  have hlen := textO_len t
  refine en_pass_reader_seat rfl ?_
  repeat (first | refine SemW.run tblOk ?_ | refine IntG.nw (by omega) ?_ | refine IntG.nu8 (by omega) ?_ | refine IntG.nu32 (by omega) ?_ | refine IntG.nu64 (by omega) ?_ | refine IntG.wr' rfl ?_ | refine Chk.mk (by omega) ?_ | (refine BrG.id ?_; first | with_reducible refine BrG.t ?_ | with_reducible refine BrG.f ?_ | with_reducible refine BrG.notG ?_ | with_reducible refine BrG.nn ?_ | with_reducible refine BrG.ns ?_ | refine BrG.pos (by omega) ?_ | refine BrG.neg (by omega) ?_ | with_reducible refine BrG.pos rfl ?_ | refine BrG.pos (by assumption) ?_ | refine BrG.neg (by assumption) ?_ | refine BrG.pos (by decide) ?_ | refine BrG.neg (by decide) ?_) | refine Chk.mk (ptr_ok tblOk rfl rfl) ?_ | refine Chk.mk (by decide) ?_)
  refine hS.al ?_
  intro b2 w1 _ hS
  repeat (first | refine SemW.run tblOk ?_ | refine IntG.nw (by omega) ?_ | refine IntG.nu8 (by omega) ?_ | refine IntG.nu32 (by omega) ?_ | refine IntG.nu64 (by omega) ?_ | refine IntG.wr' rfl ?_ | refine Chk.mk (by omega) ?_ | (refine BrG.id ?_; first | with_reducible refine BrG.t ?_ | with_reducible refine BrG.f ?_ | with_reducible refine BrG.notG ?_ | with_reducible refine BrG.nn ?_ | with_reducible refine BrG.ns ?_ | refine BrG.pos (by omega) ?_ | refine BrG.neg (by omega) ?_ | with_reducible refine BrG.pos rfl ?_ | refine BrG.pos (by assumption) ?_ | refine BrG.neg (by assumption) ?_ | refine BrG.pos (by decide) ?_ | refine BrG.neg (by decide) ?_) | refine Chk.mk (ptr_ok tblOk rfl rfl) ?_ | refine Chk.mk (by decide) ?_ | refine hS.ld rfl ?_ | refine hS.ldn rfl ?_ | (refine hS.st rfl rfl ?_; intro _ hS))
  refine Cl.mono (RText_spec (hS.part (L := [(b, rdC t)])) ht) ?_
  rintro _ w2 ⟨rfl, hS'⟩
  have hS := hS.call (L := [(b, rdC t)]) hS'
  generalize textO t = x at hS hlen ⊢
  obtain ⟨s, e, r⟩ := x
  simp only at hS hlen ⊢
  have hE2 := hE.keep hS hg0 hg1
  repeat (first | refine SemW.run tblOk ?_ | refine IntG.nw (by omega) ?_ | refine IntG.nu8 (by omega) ?_ | refine IntG.nu32 (by omega) ?_ | refine IntG.nu64 (by omega) ?_ | refine IntG.wr' rfl ?_ | refine Chk.mk (by omega) ?_ | (refine BrG.id ?_; first | with_reducible refine BrG.t ?_ | with_reducible refine BrG.f ?_ | with_reducible refine BrG.notG ?_ | with_reducible refine BrG.nn ?_ | with_reducible refine BrG.ns ?_ | refine BrG.pos (by omega) ?_ | refine BrG.neg (by omega) ?_ | with_reducible refine BrG.pos rfl ?_ | refine BrG.pos (by assumption) ?_ | refine BrG.neg (by assumption) ?_ | refine BrG.pos (by decide) ?_ | refine BrG.neg (by decide) ?_) | refine Chk.mk (ptr_ok tblOk rfl rfl) ?_ | refine Chk.mk (by decide) ?_ | refine hS.ld rfl ?_ | refine hS.ldn rfl ?_ | (refine hS.st rfl rfl ?_; intro _ hS))
  refine Cl.mono (Parse_spec (by omega) hE2) ?_
  rintro _ w3 ⟨rfl, hS'⟩
  have hS := hS.call0 hS'
  unfold seatAt
  generalize parseO s = y at hS ⊢
  obtain ⟨n, c, ok⟩ := y
  simp only at hS ⊢
  repeat (first | refine SemW.run tblOk ?_ | refine IntG.nw (by omega) ?_ | refine IntG.nu8 (by omega) ?_ | refine IntG.nu32 (by omega) ?_ | refine IntG.nu64 (by omega) ?_ | refine IntG.wr' rfl ?_ | refine Chk.mk (by omega) ?_ | (refine BrG.id ?_; first | with_reducible refine BrG.t ?_ | with_reducible refine BrG.f ?_ | with_reducible refine BrG.notG ?_ | with_reducible refine BrG.nn ?_ | with_reducible refine BrG.ns ?_ | refine BrG.pos (by omega) ?_ | refine BrG.neg (by omega) ?_ | with_reducible refine BrG.pos rfl ?_ | refine BrG.pos (by assumption) ?_ | refine BrG.neg (by assumption) ?_ | refine BrG.pos (by decide) ?_ | refine BrG.neg (by decide) ?_) | refine Chk.mk (ptr_ok tblOk rfl rfl) ?_ | refine Chk.mk (by decide) ?_ | refine hS.ld rfl ?_ | refine hS.ldn rfl ?_ | (refine hS.st rfl rfl ?_; intro _ hS))
  refine hS.al ?_
  intro b3 w4 _ hS
  cases bad with
  | true =>
    repeat (first | refine SemW.run tblOk ?_ | refine IntG.nw (by omega) ?_ | refine IntG.nu8 (by omega) ?_ | refine IntG.nu32 (by omega) ?_ | refine IntG.nu64 (by omega) ?_ | refine IntG.wr' rfl ?_ | refine Chk.mk (by omega) ?_ | (refine BrG.id ?_; first | with_reducible refine BrG.t ?_ | with_reducible refine BrG.f ?_ | with_reducible refine BrG.notG ?_ | with_reducible refine BrG.nn ?_ | with_reducible refine BrG.ns ?_ | refine BrG.pos (by omega) ?_ | refine BrG.neg (by omega) ?_ | with_reducible refine BrG.pos rfl ?_ | refine BrG.pos (by assumption) ?_ | refine BrG.neg (by assumption) ?_ | refine BrG.pos (by decide) ?_ | refine BrG.neg (by decide) ?_) | refine Chk.mk (ptr_ok tblOk rfl rfl) ?_ | refine Chk.mk (by decide) ?_ | refine hS.ld rfl ?_ | refine hS.ldn rfl ?_ | (refine hS.st rfl rfl ?_; intro _ hS))
    exact ⟨rfl, hS.sub (H' := [(rb, rrC b true), (b, rdC r)]) ((List.sublist_cons_self _ _).trans (List.sublist_cons_self _ _))⟩
  | false =>
    by_cases he : e = 0
    · subst he
      cases ok with
      | true =>
        repeat (first | refine SemW.run tblOk ?_ | refine IntG.nw (by omega) ?_ | refine IntG.nu8 (by omega) ?_ | refine IntG.nu32 (by omega) ?_ | refine IntG.nu64 (by omega) ?_ | refine IntG.wr' rfl ?_ | refine Chk.mk (by omega) ?_ | (refine BrG.id ?_; first | with_reducible refine BrG.t ?_ | with_reducible refine BrG.f ?_ | with_reducible refine BrG.notG ?_ | with_reducible refine BrG.nn ?_ | with_reducible refine BrG.ns ?_ | refine BrG.pos (by omega) ?_ | refine BrG.neg (by omega) ?_ | with_reducible refine BrG.pos rfl ?_ | refine BrG.pos (by assumption) ?_ | refine BrG.neg (by assumption) ?_ | refine BrG.pos (by decide) ?_ | refine BrG.neg (by decide) ?_) | refine Chk.mk (ptr_ok tblOk rfl rfl) ?_ | refine Chk.mk (by decide) ?_ | refine hS.ld rfl ?_ | refine hS.ldn rfl ?_ | (refine hS.st rfl rfl ?_; intro _ hS))
        exact ⟨rfl, hS.sub (H' := [(rb, rrC b false), (b, rdC r)]) ((List.sublist_cons_self _ _).trans (List.sublist_cons_self _ _))⟩
      | false =>
        repeat (first | refine SemW.run tblOk ?_ | refine IntG.nw (by omega) ?_ | refine IntG.nu8 (by omega) ?_ | refine IntG.nu32 (by omega) ?_ | refine IntG.nu64 (by omega) ?_ | refine IntG.wr' rfl ?_ | refine Chk.mk (by omega) ?_ | (refine BrG.id ?_; first | with_reducible refine BrG.t ?_ | with_reducible refine BrG.f ?_ | with_reducible refine BrG.notG ?_ | with_reducible refine BrG.nn ?_ | with_reducible refine BrG.ns ?_ | refine BrG.pos (by omega) ?_ | refine BrG.neg (by omega) ?_ | with_reducible refine BrG.pos rfl ?_ | refine BrG.pos (by assumption) ?_ | refine BrG.neg (by assumption) ?_ | refine BrG.pos (by decide) ?_ | refine BrG.neg (by decide) ?_) | refine Chk.mk (ptr_ok tblOk rfl rfl) ?_ | refine Chk.mk (by decide) ?_ | refine hS.ld rfl ?_ | refine hS.ldn rfl ?_ | (refine hS.st rfl rfl ?_; intro _ hS))
        exact ⟨rfl, hS.sub (H' := [(rb, rrC b true), (b, rdC r)]) ((List.sublist_cons_self _ _).trans (List.sublist_cons_self _ _))⟩
    · have e1 : (false || decide (e ≠ 0) || !ok) = true := by simp [he]
      rw [e1]
      repeat (first | refine SemW.run tblOk ?_ | refine IntG.nw (by omega) ?_ | refine IntG.nu8 (by omega) ?_ | refine IntG.nu32 (by omega) ?_ | refine IntG.nu64 (by omega) ?_ | refine IntG.wr' rfl ?_ | refine Chk.mk (by omega) ?_ | (refine BrG.id ?_; first | with_reducible refine BrG.t ?_ | with_reducible refine BrG.f ?_ | with_reducible refine BrG.notG ?_ | with_reducible refine BrG.nn ?_ | with_reducible refine BrG.ns ?_ | refine BrG.pos (by omega) ?_ | refine BrG.neg (by omega) ?_ | with_reducible refine BrG.pos rfl ?_ | refine BrG.pos (by assumption) ?_ | refine BrG.neg (by assumption) ?_ | refine BrG.pos (by decide) ?_ | refine BrG.neg (by decide) ?_) | refine Chk.mk (ptr_ok tblOk rfl rfl) ?_ | refine Chk.mk (by decide) ?_ | refine hS.ld rfl ?_ | refine hS.ldn rfl ?_ | (refine hS.st rfl rfl ?_; intro _ hS))
      refine ⟨rfl, ?_⟩
      exact hS.sub (H' := [(rb, rrC b true), (b, rdC r)]) ((List.sublist_cons_self _ _).trans (List.sublist_cons_self _ _))
/-- The body, read piece by piece. -/
def rd0 (t : Bytes) : Bytes × Bool := cutO t [66, 80, 49]
def rd1 (t : Bytes) : Int × Int × Bytes := intO (rd0 t).1
def rd2 (t : Bytes) : Int × Int × Bytes := intO (rd1 t).2.2
def rd3 (t : Bytes) : Int × Int × Bytes := intO (rd2 t).2.2
def rd4 (t : Bytes) : Bytes × Int × Bytes := textO (rd3 t).2.2
def rd5 (t : Bytes) : Int × Nat × Bool := parseO (rd4 t).1
def rdP (t : Bytes) : PassM := ⟨(rd1 t).1, (rd2 t).1, (rd3 t).1, (rd5 t).1, (rd5 t).2.1⟩
def rdBad (t : Bytes) : Bool := false || decide ((rd1 t).2.1 ≠ 0) || decide ((rd2 t).2.1 ≠ 0) || decide ((rd3 t).2.1 ≠ 0) || decide ((rd4 t).2.1 ≠ 0) || !(rd5 t).2.2
def rdOk (t : Bytes) : Bool := (rd0 t).2 && !rdBad t && decide ((rd4 t).2.2 = []) && rightM (rdP t)
theorem intO_ok (t : Bytes) : i64ok (intO t).1 := by
  have h := numO_lt t
  unfold intO i64ok unzig
  split <;> simp only <;> omega
theorem parseO_lt (s : Bytes) : (parseO s).2.1 < 256 := by
  unfold parseO
  cases h : parseB s with
  | none => show 0 < 256; omega
  | some x =>
    obtain ⟨n, c⟩ := x
    have := (seatOk_iff.1 (parseB_some h).1).2.2.2
    show c < 256; omega
theorem rdP_ok (t : Bytes) : (rdP t).ok := ⟨intO_ok _, intO_ok _, intO_ok _, parseO_lt _⟩
theorem intO_zero {t : Bytes} (h : (intO t).2.1 = 0) : t = intB (intO t).1 ++ (intO t).2.2 := by
  have hn : ∀ x, numR t = x → numO t = (match x with | some (m, r) => (m, 0, r) | none => (0, 1, t)) := fun x hx => by unfold numO; rw [hx]; cases x <;> rfl
  unfold intO at *
  cases hr : numR t with
  | none => rw [hn _ hr] at h; cases h
  | some x =>
    obtain ⟨m, r⟩ := x
    rw [hn _ hr]
    have h1 := ((numR_iff t m r).1 hr).1
    show t = intB (unzig m) ++ r
    unfold intB
    rw [zig_unzig]; exact h1
theorem intO_app {z : Int} (hz : i64ok z) (r : Bytes) : intO (intB z ++ r) = (z, 0, r) := by
  have hzl : zig z < 18446744073709551616 := by
    unfold i64ok at hz; unfold zig; split <;> omega
  have h := (numR_iff (intB z ++ r) (zig z) r).2 ⟨rfl, hzl⟩
  unfold intO numO
  rw [h]
  show (unzig (zig z), 0, r) = _
  rw [unzig_zig]
theorem textO_zero {t : Bytes} (h : (textO t).2.1 = 0) : t = textB (textO t).1 ++ (textO t).2.2 := by
  unfold textO at *
  cases hr : textR t with
  | none => rw [hr] at h; cases h
  | some x => obtain ⟨s, r⟩ := x; exact ((textR_iff t s r).1 hr).1
theorem textO_app {s : Bytes} (hs : s.length < 18446744073709551616) (r : Bytes) : textO (textB s ++ r) = (s, 0, r) := by
  unfold textO
  rw [(textR_iff (textB s ++ r) s r).2 ⟨rfl, hs⟩]
theorem cutO_true {t p : Bytes} (h : (cutO t p).2 = true) : t = p ++ (cutO t p).1 := by
  unfold cutO at *
  split at h
  · rename_i he
    rw [if_pos he]
    show t = p ++ t.drop p.length
    conv => lhs; rw [← List.take_append_drop p.length t, he]
  · cases h
theorem cutO_app (p r : Bytes) : cutO (p ++ r) p = (r, true) := by
  unfold cutO; rw [if_pos (by simp)]; simp
theorem rdOk_body {t : Bytes} (h : rdOk t = true) : t = bodyB (rdP t) ∧ rightM (rdP t) = true := by
  unfold rdOk at h
  simp only [Bool.and_eq_true, Bool.not_eq_true', decide_eq_true_eq] at h
  obtain ⟨⟨⟨h0, hb⟩, h5⟩, h6⟩ := h
  refine ⟨?_, h6⟩
  unfold rdBad at hb
  simp only [Bool.or_eq_false_iff, decide_eq_false_iff_not, Bool.not_eq_false', Decidable.not_not] at hb
  obtain ⟨⟨⟨⟨⟨-, h1⟩, h2⟩, h3⟩, h4⟩, h7⟩ := hb
  have e0 := cutO_true (t := t) (p := [66, 80, 49]) h0
  have e1 := intO_zero (t := (rd0 t).1) h1
  have e2 := intO_zero (t := (rd1 t).2.2) h2
  have e3 := intO_zero (t := (rd2 t).2.2) h3
  have e4 := textO_zero (t := (rd3 t).2.2) h4
  have e5 : labelB (rd5 t).1 (rd5 t).2.1 = (rd4 t).1 := by
    unfold rd5 parseO at *
    cases hp : parseB (rd4 t).1 with
    | none => rw [hp] at h7; cases h7
    | some x => obtain ⟨n, c⟩ := x; exact (parseB_some hp).2
  rw [bodyB_eq]
  show t = [66, 80, 49] ++ (intB (rd1 t).1 ++ (intB (rd2 t).1 ++ (intB (rd3 t).1 ++ (textB (labelB (rd5 t).1 (rd5 t).2.1) ++ []))))
  have h5' : (textO (rd3 t).2.2).2.2 = [] := h5
  rw [h5'] at e4
  rw [e5]
  show t = [66, 80, 49] ++ (intB (rd1 t).1 ++ (intB (rd2 t).1 ++ (intB (rd3 t).1 ++ (textB (textO (rd3 t).2.2).1 ++ []))))
  rw [← e4]
  show t = [66, 80, 49] ++ (intB (rd1 t).1 ++ (intB (rd2 t).1 ++ (intB (intO (rd2 t).2.2).1 ++ (intO (rd2 t).2.2).2.2)))
  rw [← e3]
  show t = [66, 80, 49] ++ (intB (rd1 t).1 ++ (intB (intO (rd1 t).2.2).1 ++ (intO (rd1 t).2.2).2.2))
  rw [← e2]
  show t = [66, 80, 49] ++ (intB (intO (rd0 t).1).1 ++ (intO (rd0 t).1).2.2)
  rw [← e1]
  exact e0
theorem rd_body (p : PassM) (hp : p.ok) (hr : rightM p = true) : rdOk (bodyB p) = true ∧ rdP (bodyB p) = p := by
  have hl3 := labelB_len p.num p.c
  have hso : seatOk p.num p.c = true := by simp only [rightM, Bool.and_eq_true] at hr; exact hr.2
  have e0 : rd0 (bodyB p) = (intB p.fl ++ (intB p.px ++ (intB p.sq ++ (textB (labelB p.num p.c) ++ []))), true) := by
    rw [bodyB_eq]; exact cutO_app _ _
  have e1 : rd1 (bodyB p) = (p.fl, 0, intB p.px ++ (intB p.sq ++ (textB (labelB p.num p.c) ++ []))) := by
    unfold rd1; rw [e0]; exact intO_app hp.fl _
  have e2 : rd2 (bodyB p) = (p.px, 0, intB p.sq ++ (textB (labelB p.num p.c) ++ [])) := by
    unfold rd2; rw [e1]; exact intO_app hp.px _
  have e3 : rd3 (bodyB p) = (p.sq, 0, textB (labelB p.num p.c) ++ []) := by
    unfold rd3; rw [e2]; exact intO_app hp.sq _
  have e4 : rd4 (bodyB p) = (labelB p.num p.c, 0, []) := by
    unfold rd4; rw [e3]; exact textO_app (by omega) _
  have e5 : rd5 (bodyB p) = (p.num, p.c, true) := by
    unfold rd5 parseO; rw [e4]; simp only; rw [parseB_label hso]
  have eP : rdP (bodyB p) = p := by unfold rdP; rw [e1, e2, e3, e5]
  refine ⟨?_, eP⟩
  unfold rdOk rdBad
  rw [eP, hr, e0, e1, e2, e3, e4, e5]
  rfl
/-- What pass.Read answers. -/
def pz : PassM := ⟨0, 0, 0, 0, 0⟩
def readM (key text : Bytes) : PassM × Int :=
  if text.length < 32 then (pz, 32)
  else if rdOk (text.take (text.length - 32)) then
    (if macB key (text.take (text.length - 32)) = text.drop (text.length - 32) then (rdP (text.take (text.length - 32)), 0) else (pz, 20))
  else (pz, 32)
end Go.Proofs.YtklppplnkpnbhaaDoor
