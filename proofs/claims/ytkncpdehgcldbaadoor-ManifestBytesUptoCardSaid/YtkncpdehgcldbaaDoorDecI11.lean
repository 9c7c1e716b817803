/- manifest.Decode: its numbers. -/
import Derived.Test.YtkncpdehgcldbaaDoorDec11
namespace Go.Proofs.YtkncpdehgcldbaaDoor
open Go Go.Eng Go.Proofs Go.Srt
set_option maxHeartbeats 4000000 in
theorem rdOne_spec {w : World} {rr rb b4 b5 : Nat} {s : RB} {fa a : Option Addr} {fn fc c : Nat} {l : List Int} {L : Heap} (hv : Vec T_int 1 a l.length c (l.map intV) L) (hh : Holds ((rr, .cells ⟨[ptr rb, .bool s.bad]⟩ T_manifest_reader (0, 0)) :: (rb, .cells ⟨[Str s.t]⟩ T_pack_Reader (0, 0)) :: (b4, .cells ⟨[ptr rr]⟩ T_Ptr_manifest_reader (0, 0)) :: (b5, .cells ⟨[.slice fa fn fc, .slice a l.length c, .int .i64 0, .int .i64 0, .int .i64 0]⟩ T_api_Edit (0, 0)) :: L) w) (ht : s.t.length ≤ 70368744177664) (hl : l.length ≤ 4398046511104) :
    Cl Tryd.prog f_manifest_Decode_2 [ptr b5, ptr b4] w fun _ w' => ∃ a' c' L', Vec T_int 1 a' (l ++ [(rbInt s).1]).length c' ((l ++ [(rbInt s).1]).map intV) L' ∧ St w (rr :: rb :: b4 :: b5 :: keys L) ((rr, .cells ⟨[ptr rb, .bool (rbInt s).2.bad]⟩ T_manifest_reader (0, 0)) :: (rb, .cells ⟨[Str (rbInt s).2.t]⟩ T_pack_Reader (0, 0)) :: (b4, .cells ⟨[ptr rr]⟩ T_Ptr_manifest_reader (0, 0)) :: (b5, .cells ⟨[.slice fa fn fc, .slice a' (l ++ [(rbInt s).1]).length c', .int .i64 0, .int .i64 0, .int .i64 0]⟩ T_api_Edit (0, 0)) :: L') w' := by
  have hS : St w (rr :: rb :: b4 :: b5 :: keys L) ((rr, .cells ⟨[ptr rb, .bool s.bad]⟩ T_manifest_reader (0, 0)) :: (rb, .cells ⟨[Str s.t]⟩ T_pack_Reader (0, 0)) :: (b4, .cells ⟨[ptr rr]⟩ T_Ptr_manifest_reader (0, 0)) :: (b5, .cells ⟨[.slice fa fn fc, .slice a l.length c, .int .i64 0, .int .i64 0, .int .i64 0]⟩ T_api_Edit (0, 0)) :: L) w := St.enter hh
  generalize (rr :: rb :: b4 :: b5 :: keys L) = T at hS ⊢
  refine en_manifest_Decode_2 rfl ?_
  repeat (first | refine SemW.run tblOk ?_ | refine IntG.nw (by omega) ?_ | refine IntG.nu8 (by omega) ?_ | refine IntG.nu32 (by omega) ?_ | refine IntG.nu64 (by omega) ?_ | refine IntG.wr' rfl ?_ | refine Chk.mk (by omega) ?_ | (refine BrG.id ?_; first | with_reducible refine BrG.t ?_ | with_reducible refine BrG.f ?_ | with_reducible refine BrG.notG ?_ | with_reducible refine BrG.nn ?_ | with_reducible refine BrG.ns ?_ | refine BrG.pos (by omega) ?_ | refine BrG.neg (by omega) ?_ | with_reducible refine BrG.pos rfl ?_ | refine BrG.pos (by assumption) ?_ | refine BrG.neg (by assumption) ?_ | refine BrG.pos (by decide) ?_ | refine BrG.neg (by decide) ?_) | refine Chk.mk (ptr_ok tblOk rfl rfl) ?_ | refine Chk.mk (by decide) ?_)
  refine SemW.draw tblOk mixed (fun w' => St w T [(b4, .cells ⟨[ptr rr]⟩ T_Ptr_manifest_reader (0, 0)), (b5, .cells ⟨[.slice fa fn fc, .slice a l.length c, .int .i64 0, .int .i64 0, .int .i64 0]⟩ T_api_Edit (0, 0))] w') [7] [0, 1, 2, 3, 4, 5, 6, 7] (by kernel_rfl) (hS.drew.sub (sub4 _ _ _ _ _)) ?_
  have hV := hS.drew
  have hS : St w T [(b4, .cells ⟨[ptr rr]⟩ T_Ptr_manifest_reader (0, 0)), (b5, .cells ⟨[.slice fa fn fc, .slice a l.length c, .int .i64 0, .int .i64 0, .int .i64 0]⟩ T_api_Edit (0, 0))] _ := hV.sub (sub4 _ _ _ _ _)
  repeat (first | refine SemW.run tblOk ?_ | refine IntG.nw (by omega) ?_ | refine IntG.nu8 (by omega) ?_ | refine IntG.nu32 (by omega) ?_ | refine IntG.nu64 (by omega) ?_ | refine IntG.wr' rfl ?_ | refine Chk.mk (by omega) ?_ | (refine BrG.id ?_; first | with_reducible refine BrG.t ?_ | with_reducible refine BrG.f ?_ | with_reducible refine BrG.notG ?_ | with_reducible refine BrG.nn ?_ | with_reducible refine BrG.ns ?_ | refine BrG.pos (by omega) ?_ | refine BrG.neg (by omega) ?_ | with_reducible refine BrG.pos rfl ?_ | refine BrG.pos (by assumption) ?_ | refine BrG.neg (by assumption) ?_ | refine BrG.pos (by decide) ?_ | refine BrG.neg (by decide) ?_) | refine Chk.mk (ptr_ok tblOk rfl rfl) ?_ | refine Chk.mk (by decide) ?_ | refine hS.ldC rfl ?_ | refine hS.ldnC rfl ?_)
  refine Cl.mono (rint_spec (s := s) (hV.part (L := [(rr, rdrC rb s.bad), (rb, rdC s.t)])) ht) ?_
  rintro _ w2 ⟨rfl, hS'⟩
  have hV := hV.call (L := [(rr, rdrC rb s.bad), (rb, rdC s.t)]) hS'
  generalize rbInt s = x2 at hV ⊢
  obtain ⟨z2, s2⟩ := x2
  simp only at hV ⊢
  have hV : St w T ((rr, .cells ⟨[ptr rb, .bool s2.bad]⟩ T_manifest_reader (0, 0)) :: (rb, .cells ⟨[Str s2.t]⟩ T_pack_Reader (0, 0)) :: (b4, .cells ⟨[ptr rr]⟩ T_Ptr_manifest_reader (0, 0)) :: (b5, .cells ⟨[.slice fa fn fc, .slice a l.length c, .int .i64 0, .int .i64 0, .int .i64 0]⟩ T_api_Edit (0, 0)) :: L) w2 := hV
  refine Chk.mk (hV.sub (sub4 _ _ _ _ _)) ?_
  repeat (first | refine SemW.run tblOk ?_ | refine IntG.nw (by omega) ?_ | refine IntG.nu8 (by omega) ?_ | refine IntG.nu32 (by omega) ?_ | refine IntG.nu64 (by omega) ?_ | refine IntG.wr' rfl ?_ | refine Chk.mk (by omega) ?_ | (refine BrG.id ?_; first | with_reducible refine BrG.t ?_ | with_reducible refine BrG.f ?_ | with_reducible refine BrG.notG ?_ | with_reducible refine BrG.nn ?_ | with_reducible refine BrG.ns ?_ | refine BrG.pos (by omega) ?_ | refine BrG.neg (by omega) ?_ | with_reducible refine BrG.pos rfl ?_ | refine BrG.pos (by assumption) ?_ | refine BrG.neg (by assumption) ?_ | refine BrG.pos (by decide) ?_ | refine BrG.neg (by decide) ?_) | refine Chk.mk (ptr_ok tblOk rfl rfl) ?_ | refine Chk.mk (by decide) ?_ | refine hS.ldC rfl ?_ | refine hS.ldnC rfl ?_)
  refine hV.al ?_
  intro r w3 _ hV
  refine Chk.mk ((St.tl1 hV).sub (sub4 _ _ _ _ _)) ?_
  repeat (first | refine SemW.run tblOk ?_ | refine IntG.nw (by omega) ?_ | refine IntG.nu8 (by omega) ?_ | refine IntG.nu32 (by omega) ?_ | refine IntG.nu64 (by omega) ?_ | refine IntG.wr' rfl ?_ | refine Chk.mk (by omega) ?_ | (refine BrG.id ?_; first | with_reducible refine BrG.t ?_ | with_reducible refine BrG.f ?_ | with_reducible refine BrG.notG ?_ | with_reducible refine BrG.nn ?_ | with_reducible refine BrG.ns ?_ | refine BrG.pos (by omega) ?_ | refine BrG.neg (by omega) ?_ | with_reducible refine BrG.pos rfl ?_ | refine BrG.pos (by assumption) ?_ | refine BrG.neg (by assumption) ?_ | refine BrG.pos (by decide) ?_ | refine BrG.neg (by decide) ?_) | refine Chk.mk (ptr_ok tblOk rfl rfl) ?_ | refine Chk.mk (by decide) ?_ | refine hS.ldC rfl ?_ | refine hS.ldnC rfl ?_)
  refine St.app (sz := 1) (m := 1) tblOk rfl rfl rfl rfl hV hv (news := [intV z2]) rfl (by have := hV.arr (b := r) (T' := []) (by simp); exact this) rfl (by show (_ + _) * 8 ≤ _; omega) (by omega) ?_
  intro a2 c2 L2 w4 hv hV
  have e9 : l.map intV ++ [intV z2] = (l ++ [z2]).map intV := by simp
  have e8 : l.length + 1 = (l ++ [z2]).length := by simp
  rw [e9, e8] at hv
  rw [e8]
  refine Chk.mk ((St.tl1 hV).sub (sub4 _ _ _ _ _)) ?_
  have hS := St.tl1 hV
  repeat (first | refine SemW.run tblOk ?_ | refine IntG.nw (by omega) ?_ | refine IntG.nu8 (by omega) ?_ | refine IntG.nu32 (by omega) ?_ | refine IntG.nu64 (by omega) ?_ | refine IntG.wr' rfl ?_ | refine Chk.mk (by omega) ?_ | (refine BrG.id ?_; first | with_reducible refine BrG.t ?_ | with_reducible refine BrG.f ?_ | with_reducible refine BrG.notG ?_ | with_reducible refine BrG.nn ?_ | with_reducible refine BrG.ns ?_ | refine BrG.pos (by omega) ?_ | refine BrG.neg (by omega) ?_ | with_reducible refine BrG.pos rfl ?_ | refine BrG.pos (by assumption) ?_ | refine BrG.neg (by assumption) ?_ | refine BrG.pos (by decide) ?_ | refine BrG.neg (by decide) ?_) | refine Chk.mk (ptr_ok tblOk rfl rfl) ?_ | refine Chk.mk (by decide) ?_ | refine hS.ld rfl ?_ | refine hS.ldn rfl ?_ | (refine hS.st rfl rfl ?_; intro _ hS))
  exact ⟨a2, c2, L2, hv, hS⟩
theorem rbInt_len {s : RB} (h : s.bad = false) : (rbInt s).2.t.length + 1 ≤ s.t.length + bit (rbInt s).2.bad := by
  have h1 := intO_len s.t
  unfold rbInt bit
  simp only [h, Bool.false_or]
  by_cases e1 : (intO s.t).2.1 = 0
  · have h3 := intO_len' e1
    split <;> omega
  · rw [decide_eq_true e1, if_pos rfl]; omega
structure EII where
  i : Nat
  s : RB
  l : List Int
  a : Option Addr
  c : Nat
def closI (b4 b5 : Nat) : Value := .func (.func f_manifest_Decode_2) ⟨[]⟩ ⟨[ptr b5, ptr b4]⟩
theorem rdI_step (n : Nat) (s : RB) (l : List Int) (h : s.bad = false) : rdI (n + 1) (s, l) = rdI n ((rbInt s).2, l ++ [(rbInt s).1]) := by
  conv => lhs; unfold rdI
  rw [if_neg (by rw [h]; nofun)]
theorem rdI_stop (n : Nat) (s : RB) (l : List Int) (h : s.bad = true) : rdI n (s, l) = (s, l) := by
  cases n with
  | zero => rfl
  | succ n => unfold rdI; rw [if_pos h]
set_option maxHeartbeats 4000000 in
theorem eachI_spec {w : World} {rr rb b4 b5 N : Nat} {s : RB} {fa a : Option Addr} {fn fc c : Nat} {l : List Int} {L : Heap} (hv : Vec T_int 1 a l.length c (l.map intV) L) (hh : Holds ((rr, .cells ⟨[ptr rb, .bool s.bad]⟩ T_manifest_reader (0, 0)) :: (rb, .cells ⟨[Str s.t]⟩ T_pack_Reader (0, 0)) :: (b4, .cells ⟨[ptr rr]⟩ T_Ptr_manifest_reader (0, 0)) :: (b5, .cells ⟨[.slice fa fn fc, .slice a l.length c, .int .i64 0, .int .i64 0, .int .i64 0]⟩ T_api_Edit (0, 0)) :: L) w) (hN : l.length + s.t.length ≤ N) (hN2 : N ≤ 1099511627776) :
    Cl Tryd.prog f_manifest_reader_each [ptr rr, closI b4 b5] w fun _ w' => ∃ a' c' L', Vec T_int 1 a' (rdI (rbNum s).1 ((rbNum s).2, l)).2.length c' ((rdI (rbNum s).1 ((rbNum s).2, l)).2.map intV) L' ∧ St w (rr :: rb :: b4 :: b5 :: keys L) ((rr, .cells ⟨[ptr rb, .bool (rdI (rbNum s).1 ((rbNum s).2, l)).1.bad]⟩ T_manifest_reader (0, 0)) :: (rb, .cells ⟨[Str (rdI (rbNum s).1 ((rbNum s).2, l)).1.t]⟩ T_pack_Reader (0, 0)) :: (b4, .cells ⟨[ptr rr]⟩ T_Ptr_manifest_reader (0, 0)) :: (b5, .cells ⟨[.slice fa fn fc, .slice a' (rdI (rbNum s).1 ((rbNum s).2, l)).2.length c', .int .i64 0, .int .i64 0, .int .i64 0]⟩ T_api_Edit (0, 0)) :: L') w' := by
  have hS : St w (rr :: rb :: b4 :: b5 :: keys L) ((rr, .cells ⟨[ptr rb, .bool s.bad]⟩ T_manifest_reader (0, 0)) :: (rb, .cells ⟨[Str s.t]⟩ T_pack_Reader (0, 0)) :: (b4, .cells ⟨[ptr rr]⟩ T_Ptr_manifest_reader (0, 0)) :: (b5, .cells ⟨[.slice fa fn fc, .slice a l.length c, .int .i64 0, .int .i64 0, .int .i64 0]⟩ T_api_Edit (0, 0)) :: L) w := St.enter hh
  have hnl := numO_len s.t
  have hlt := numO_lt s.t
  generalize (rr :: rb :: b4 :: b5 :: keys L) = T at hS ⊢
  unfold closI
  refine en_manifest_reader_each rfl ?_
  repeat (first | refine SemW.run tblOk ?_ | refine IntG.nw (by omega) ?_ | refine IntG.nu8 (by omega) ?_ | refine IntG.nu32 (by omega) ?_ | refine IntG.nu64 (by omega) ?_ | refine IntG.wr' rfl ?_ | refine Chk.mk (by omega) ?_ | (refine BrG.id ?_; first | with_reducible refine BrG.t ?_ | with_reducible refine BrG.f ?_ | with_reducible refine BrG.notG ?_ | with_reducible refine BrG.nn ?_ | with_reducible refine BrG.ns ?_ | refine BrG.pos (by omega) ?_ | refine BrG.neg (by omega) ?_ | with_reducible refine BrG.pos rfl ?_ | refine BrG.pos (by assumption) ?_ | refine BrG.neg (by assumption) ?_ | refine BrG.pos (by decide) ?_ | refine BrG.neg (by decide) ?_) | refine Chk.mk (ptr_ok tblOk rfl rfl) ?_ | refine Chk.mk (by decide) ?_ | refine hS.ld rfl ?_ | refine hS.ldn rfl ?_ | (refine hS.st rfl rfl ?_; intro _ hS))
  refine Cl.mono (RNum_spec (hS.part (L := [(rb, rdC s.t)])) (by omega)) ?_
  rintro _ w1 ⟨rfl, hS'⟩
  have hS := hS.call (L := [(rb, rdC s.t)]) hS'
  obtain ⟨t, bad⟩ := s
  simp only at hS hnl hlt hN ⊢
  have hrn : rbNum ⟨t, bad⟩ = ((numO t).1, ⟨(numO t).2.2, bad || decide ((numO t).2.1 ≠ 0)⟩) := rfl
  rw [hrn]
  simp only
  generalize numO t = x1 at hS hnl hlt ⊢
  obtain ⟨n, er, t1⟩ := x1
  simp only at hS hnl hlt ⊢
  have hS : St w T ((rr, .cells ⟨[ptr rb, .bool bad]⟩ T_manifest_reader (0, 0)) :: (rb, .cells ⟨[Str t1]⟩ T_pack_Reader (0, 0)) :: (b4, .cells ⟨[ptr rr]⟩ T_Ptr_manifest_reader (0, 0)) :: (b5, .cells ⟨[.slice fa fn fc, .slice a l.length c, .int .i64 0, .int .i64 0, .int .i64 0]⟩ T_api_Edit (0, 0)) :: L) w1 := hS
  generalize hbd : (bad || decide (er ≠ 0)) = bd
  generalize hX : rdI n (⟨t1, bd⟩, l) = X
  have hj : (0 ≤ n ∧ rdI (n - 0) (⟨t1, bd⟩, l) = X ∧ l.length + t1.length ≤ N + bit bd) := ⟨Nat.zero_le _, hX, by unfold bit; split <;> omega⟩
  have hbd2 : bad = false → (!decide (er = 0)) = bd := by rintro rfl; rw [← hbd]; simp
  cases bad with
  | true =>
    have hbt : bd = true := by rw [← hbd]; rfl
    subst hbt
    repeat (first | refine SemW.run tblOk ?_ | refine IntG.nw (by omega) ?_ | refine IntG.nu8 (by omega) ?_ | refine IntG.nu32 (by omega) ?_ | refine IntG.nu64 (by omega) ?_ | refine IntG.wr' rfl ?_ | refine Chk.mk (by omega) ?_ | (refine BrG.id ?_; first | with_reducible refine BrG.t ?_ | with_reducible refine BrG.f ?_ | with_reducible refine BrG.notG ?_ | with_reducible refine BrG.nn ?_ | with_reducible refine BrG.ns ?_ | refine BrG.pos (by omega) ?_ | refine BrG.neg (by omega) ?_ | with_reducible refine BrG.pos rfl ?_ | refine BrG.pos (by assumption) ?_ | refine BrG.neg (by assumption) ?_ | refine BrG.pos (by decide) ?_ | refine BrG.neg (by decide) ?_) | refine Chk.mk (ptr_ok tblOk rfl rfl) ?_ | refine Chk.mk (by decide) ?_ | refine hS.ld rfl ?_ | refine hS.ldn rfl ?_ | (refine hS.st rfl rfl ?_; intro _ hS))
    refine SemW.loop (fun z : EII => [(0, ptr rr), (1, .func (.func f_manifest_Decode_2) ⟨[]⟩ ⟨[ptr b5, ptr b4]⟩), (4, .int .u64 n), (6, .int .u64 z.i)])
      (fun z w' => (z.i ≤ n ∧ rdI (n - z.i) (z.s, z.l) = X ∧ z.l.length + z.s.t.length ≤ N + bit z.s.bad) ∧ ∃ L, Vec T_int 1 z.a z.l.length z.c (z.l.map intV) L ∧ St w T ((rr, .cells ⟨[ptr rb, .bool z.s.bad]⟩ T_manifest_reader (0, 0)) :: (rb, .cells ⟨[Str z.s.t]⟩ T_pack_Reader (0, 0)) :: (b4, .cells ⟨[ptr rr]⟩ T_Ptr_manifest_reader (0, 0)) :: (b5, .cells ⟨[.slice fa fn fc, .slice z.a z.l.length z.c, .int .i64 0, .int .i64 0, .int .i64 0]⟩ T_api_Edit (0, 0)) :: L) w') (fun z => n - z.i) ⟨0, ⟨t1, _⟩, l, a, c⟩
      ⟨rfl, rfl, rfl, rfl, trivial⟩ ⟨hj, L, hv, hS⟩ ?_
    clear hS hj hX hv hS' hrn hbd hbd2
    rintro ⟨i, s, l, a, c⟩ w2 ⟨⟨hi, hx, hsz⟩, L, hv, hS⟩
    simp only at hi hx hsz hv hS ⊢
    by_cases hin : i < n
    · cases hb : s.bad with
      | true =>
        rw [rdI_stop _ _ _ hb] at hx
        subst hx
        rw [hb] at hS
        repeat (first | refine SemW.run tblOk ?_ | refine IntG.nw (by omega) ?_ | refine IntG.nu8 (by omega) ?_ | refine IntG.nu32 (by omega) ?_ | refine IntG.nu64 (by omega) ?_ | refine IntG.wr' rfl ?_ | refine Chk.mk (by omega) ?_ | (refine BrG.id ?_; first | with_reducible refine BrG.t ?_ | with_reducible refine BrG.f ?_ | with_reducible refine BrG.notG ?_ | with_reducible refine BrG.nn ?_ | with_reducible refine BrG.ns ?_ | refine BrG.pos (by omega) ?_ | refine BrG.neg (by omega) ?_ | with_reducible refine BrG.pos rfl ?_ | refine BrG.pos (by assumption) ?_ | refine BrG.neg (by assumption) ?_ | refine BrG.pos (by decide) ?_ | refine BrG.neg (by decide) ?_) | refine Chk.mk (ptr_ok tblOk rfl rfl) ?_ | refine Chk.mk (by decide) ?_ | refine hS.ld rfl ?_ | refine hS.ldn rfl ?_ | (refine hS.st rfl rfl ?_; intro _ hS))
        rw [← hb] at hS
        exact ⟨a, c, L, hv, hS⟩
      | false =>
        have hsl := rbInt_len hb
        rw [show n - i = (n - (i + 1)) + 1 by omega, rdI_step _ _ _ hb] at hx
        have hb0 : bit s.bad = 0 := by rw [hb]; rfl
        have hSb := hS
        rw [hb] at hS
        repeat (first | refine SemW.run tblOk ?_ | refine IntG.nw (by omega) ?_ | refine IntG.nu8 (by omega) ?_ | refine IntG.nu32 (by omega) ?_ | refine IntG.nu64 (by omega) ?_ | refine IntG.wr' rfl ?_ | refine Chk.mk (by omega) ?_ | (refine BrG.id ?_; first | with_reducible refine BrG.t ?_ | with_reducible refine BrG.f ?_ | with_reducible refine BrG.notG ?_ | with_reducible refine BrG.nn ?_ | with_reducible refine BrG.ns ?_ | refine BrG.pos (by omega) ?_ | refine BrG.neg (by omega) ?_ | with_reducible refine BrG.pos rfl ?_ | refine BrG.pos (by assumption) ?_ | refine BrG.neg (by assumption) ?_ | refine BrG.pos (by decide) ?_ | refine BrG.neg (by decide) ?_) | refine Chk.mk (ptr_ok tblOk rfl rfl) ?_ | refine Chk.mk (by decide) ?_ | refine hS.ld rfl ?_ | refine hS.ldn rfl ?_ | (refine hS.st rfl rfl ?_; intro _ hS))
        refine Cl.mono (rdOne_spec (s := s) hv hSb.holds (by omega) (by omega)) ?_
        rintro _ w3 ⟨a', c', L', hv', hS'⟩
        have hS := St.callAll hSb hS'
        repeat (first | refine SemW.run tblOk ?_ | refine IntG.nw (by omega) ?_ | refine IntG.nu8 (by omega) ?_ | refine IntG.nu32 (by omega) ?_ | refine IntG.nu64 (by omega) ?_ | refine IntG.wr' rfl ?_ | refine Chk.mk (by omega) ?_ | (refine BrG.id ?_; first | with_reducible refine BrG.t ?_ | with_reducible refine BrG.f ?_ | with_reducible refine BrG.notG ?_ | with_reducible refine BrG.nn ?_ | with_reducible refine BrG.ns ?_ | refine BrG.pos (by omega) ?_ | refine BrG.neg (by omega) ?_ | with_reducible refine BrG.pos rfl ?_ | refine BrG.pos (by assumption) ?_ | refine BrG.neg (by assumption) ?_ | refine BrG.pos (by decide) ?_ | refine BrG.neg (by decide) ?_) | refine Chk.mk (ptr_ok tblOk rfl rfl) ?_ | refine Chk.mk (by decide) ?_ | refine hS.ld rfl ?_ | refine hS.ldn rfl ?_ | (refine hS.st rfl rfl ?_; intro _ hS))
        exact ⟨⟨i + 1, (rbInt s).2, l ++ [(rbInt s).1], a', c'⟩, ⟨rfl, rfl, rfl, rfl, trivial⟩, ⟨⟨by simp only; omega, hx, by simp only [List.length_append, List.length_singleton]; omega⟩, L', hv', hS⟩, by simp only; omega⟩
    · have hie : n - i = 0 := by omega
      rw [hie] at hx
      have hx : (s, l) = X := hx
      subst hx
      repeat (first | refine SemW.run tblOk ?_ | refine IntG.nw (by omega) ?_ | refine IntG.nu8 (by omega) ?_ | refine IntG.nu32 (by omega) ?_ | refine IntG.nu64 (by omega) ?_ | refine IntG.wr' rfl ?_ | refine Chk.mk (by omega) ?_ | (refine BrG.id ?_; first | with_reducible refine BrG.t ?_ | with_reducible refine BrG.f ?_ | with_reducible refine BrG.notG ?_ | with_reducible refine BrG.nn ?_ | with_reducible refine BrG.ns ?_ | refine BrG.pos (by omega) ?_ | refine BrG.neg (by omega) ?_ | with_reducible refine BrG.pos rfl ?_ | refine BrG.pos (by assumption) ?_ | refine BrG.neg (by assumption) ?_ | refine BrG.pos (by decide) ?_ | refine BrG.neg (by decide) ?_) | refine Chk.mk (ptr_ok tblOk rfl rfl) ?_ | refine Chk.mk (by decide) ?_ | refine hS.ld rfl ?_ | refine hS.ldn rfl ?_ | (refine hS.st rfl rfl ?_; intro _ hS))
      exact ⟨a, c, L, hv, hS⟩
  | false =>
    have hbd3 := hbd2 rfl
    repeat (first | refine SemW.run tblOk ?_ | refine IntG.nw (by omega) ?_ | refine IntG.nu8 (by omega) ?_ | refine IntG.nu32 (by omega) ?_ | refine IntG.nu64 (by omega) ?_ | refine IntG.wr' rfl ?_ | refine Chk.mk (by omega) ?_ | (refine BrG.id ?_; first | with_reducible refine BrG.t ?_ | with_reducible refine BrG.f ?_ | with_reducible refine BrG.notG ?_ | with_reducible refine BrG.nn ?_ | with_reducible refine BrG.ns ?_ | refine BrG.pos (by omega) ?_ | refine BrG.neg (by omega) ?_ | with_reducible refine BrG.pos rfl ?_ | refine BrG.pos (by assumption) ?_ | refine BrG.neg (by assumption) ?_ | refine BrG.pos (by decide) ?_ | refine BrG.neg (by decide) ?_) | refine Chk.mk (ptr_ok tblOk rfl rfl) ?_ | refine Chk.mk (by decide) ?_ | refine hS.ld rfl ?_ | refine hS.ldn rfl ?_ | (refine hS.st rfl rfl ?_; intro _ hS))
    rw [hbd3] at hS
    refine SemW.loop (fun z : EII => [(0, ptr rr), (1, .func (.func f_manifest_Decode_2) ⟨[]⟩ ⟨[ptr b5, ptr b4]⟩), (4, .int .u64 n), (6, .int .u64 z.i)])
      (fun z w' => (z.i ≤ n ∧ rdI (n - z.i) (z.s, z.l) = X ∧ z.l.length + z.s.t.length ≤ N + bit z.s.bad) ∧ ∃ L, Vec T_int 1 z.a z.l.length z.c (z.l.map intV) L ∧ St w T ((rr, .cells ⟨[ptr rb, .bool z.s.bad]⟩ T_manifest_reader (0, 0)) :: (rb, .cells ⟨[Str z.s.t]⟩ T_pack_Reader (0, 0)) :: (b4, .cells ⟨[ptr rr]⟩ T_Ptr_manifest_reader (0, 0)) :: (b5, .cells ⟨[.slice fa fn fc, .slice z.a z.l.length z.c, .int .i64 0, .int .i64 0, .int .i64 0]⟩ T_api_Edit (0, 0)) :: L) w') (fun z => n - z.i) ⟨0, ⟨t1, _⟩, l, a, c⟩
      ⟨rfl, rfl, rfl, rfl, trivial⟩ ⟨hj, L, hv, hS⟩ ?_
    clear hS hj hX hv hS' hrn hbd hbd2
    rintro ⟨i, s, l, a, c⟩ w2 ⟨⟨hi, hx, hsz⟩, L, hv, hS⟩
    simp only at hi hx hsz hv hS ⊢
    by_cases hin : i < n
    · cases hb : s.bad with
      | true =>
        rw [rdI_stop _ _ _ hb] at hx
        subst hx
        rw [hb] at hS
        repeat (first | refine SemW.run tblOk ?_ | refine IntG.nw (by omega) ?_ | refine IntG.nu8 (by omega) ?_ | refine IntG.nu32 (by omega) ?_ | refine IntG.nu64 (by omega) ?_ | refine IntG.wr' rfl ?_ | refine Chk.mk (by omega) ?_ | (refine BrG.id ?_; first | with_reducible refine BrG.t ?_ | with_reducible refine BrG.f ?_ | with_reducible refine BrG.notG ?_ | with_reducible refine BrG.nn ?_ | with_reducible refine BrG.ns ?_ | refine BrG.pos (by omega) ?_ | refine BrG.neg (by omega) ?_ | with_reducible refine BrG.pos rfl ?_ | refine BrG.pos (by assumption) ?_ | refine BrG.neg (by assumption) ?_ | refine BrG.pos (by decide) ?_ | refine BrG.neg (by decide) ?_) | refine Chk.mk (ptr_ok tblOk rfl rfl) ?_ | refine Chk.mk (by decide) ?_ | refine hS.ld rfl ?_ | refine hS.ldn rfl ?_ | (refine hS.st rfl rfl ?_; intro _ hS))
        rw [← hb] at hS
        exact ⟨a, c, L, hv, hS⟩
      | false =>
        have hsl := rbInt_len hb
        rw [show n - i = (n - (i + 1)) + 1 by omega, rdI_step _ _ _ hb] at hx
        have hb0 : bit s.bad = 0 := by rw [hb]; rfl
        have hSb := hS
        rw [hb] at hS
        repeat (first | refine SemW.run tblOk ?_ | refine IntG.nw (by omega) ?_ | refine IntG.nu8 (by omega) ?_ | refine IntG.nu32 (by omega) ?_ | refine IntG.nu64 (by omega) ?_ | refine IntG.wr' rfl ?_ | refine Chk.mk (by omega) ?_ | (refine BrG.id ?_; first | with_reducible refine BrG.t ?_ | with_reducible refine BrG.f ?_ | with_reducible refine BrG.notG ?_ | with_reducible refine BrG.nn ?_ | with_reducible refine BrG.ns ?_ | refine BrG.pos (by omega) ?_ | refine BrG.neg (by omega) ?_ | with_reducible refine BrG.pos rfl ?_ | refine BrG.pos (by assumption) ?_ | refine BrG.neg (by assumption) ?_ | refine BrG.pos (by decide) ?_ | refine BrG.neg (by decide) ?_) | refine Chk.mk (ptr_ok tblOk rfl rfl) ?_ | refine Chk.mk (by decide) ?_ | refine hS.ld rfl ?_ | refine hS.ldn rfl ?_ | (refine hS.st rfl rfl ?_; intro _ hS))
        refine Cl.mono (rdOne_spec (s := s) hv hSb.holds (by omega) (by omega)) ?_
        rintro _ w3 ⟨a', c', L', hv', hS'⟩
        have hS := St.callAll hSb hS'
        repeat (first | refine SemW.run tblOk ?_ | refine IntG.nw (by omega) ?_ | refine IntG.nu8 (by omega) ?_ | refine IntG.nu32 (by omega) ?_ | refine IntG.nu64 (by omega) ?_ | refine IntG.wr' rfl ?_ | refine Chk.mk (by omega) ?_ | (refine BrG.id ?_; first | with_reducible refine BrG.t ?_ | with_reducible refine BrG.f ?_ | with_reducible refine BrG.notG ?_ | with_reducible refine BrG.nn ?_ | with_reducible refine BrG.ns ?_ | refine BrG.pos (by omega) ?_ | refine BrG.neg (by omega) ?_ | with_reducible refine BrG.pos rfl ?_ | refine BrG.pos (by assumption) ?_ | refine BrG.neg (by assumption) ?_ | refine BrG.pos (by decide) ?_ | refine BrG.neg (by decide) ?_) | refine Chk.mk (ptr_ok tblOk rfl rfl) ?_ | refine Chk.mk (by decide) ?_ | refine hS.ld rfl ?_ | refine hS.ldn rfl ?_ | (refine hS.st rfl rfl ?_; intro _ hS))
        exact ⟨⟨i + 1, (rbInt s).2, l ++ [(rbInt s).1], a', c'⟩, ⟨rfl, rfl, rfl, rfl, trivial⟩, ⟨⟨by simp only; omega, hx, by simp only [List.length_append, List.length_singleton]; omega⟩, L', hv', hS⟩, by simp only; omega⟩
    · have hie : n - i = 0 := by omega
      rw [hie] at hx
      have hx : (s, l) = X := hx
      subst hx
      repeat (first | refine SemW.run tblOk ?_ | refine IntG.nw (by omega) ?_ | refine IntG.nu8 (by omega) ?_ | refine IntG.nu32 (by omega) ?_ | refine IntG.nu64 (by omega) ?_ | refine IntG.wr' rfl ?_ | refine Chk.mk (by omega) ?_ | (refine BrG.id ?_; first | with_reducible refine BrG.t ?_ | with_reducible refine BrG.f ?_ | with_reducible refine BrG.notG ?_ | with_reducible refine BrG.nn ?_ | with_reducible refine BrG.ns ?_ | refine BrG.pos (by omega) ?_ | refine BrG.neg (by omega) ?_ | with_reducible refine BrG.pos rfl ?_ | refine BrG.pos (by assumption) ?_ | refine BrG.neg (by assumption) ?_ | refine BrG.pos (by decide) ?_ | refine BrG.neg (by decide) ?_) | refine Chk.mk (ptr_ok tblOk rfl rfl) ?_ | refine Chk.mk (by decide) ?_ | refine hS.ld rfl ?_ | refine hS.ldn rfl ?_ | (refine hS.st rfl rfl ?_; intro _ hS))
      exact ⟨a, c, L, hv, hS⟩
end Go.Proofs.YtkncpdehgcldbaaDoor
