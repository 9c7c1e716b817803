/- manifest.Decode. -/
import Derived.Test.YtkncpdehgcldbaaDoorEnc11
namespace Go.Proofs.YtkncpdehgcldbaaDoor
open Go Go.Eng Go.Proofs Go.Srt
theorem sub4 {α : Type} (p q x y : α) (L : List α) : [x, y].Sublist (p :: q :: x :: y :: L) := .cons _ (.cons _ (.cons_cons _ (.cons_cons _ (List.nil_sublist _))))
theorem St.callAll {w0 w w' : World} {T : List Nat} {H H' : Heap} (hS : St w0 T H w) (h : St w (keys H) H' w') : St w0 T H' w' := by
  have hS : St w0 T (H ++ []) w := by rw [List.append_nil]; exact hS
  have := hS.call (L := H) h
  rwa [List.append_nil] at this
abbrev rdrC (rb : Nat) (bad : Bool) : Obj := .cells ⟨[ptr rb, .bool bad]⟩ T_manifest_reader (0, 0)
theorem rbInt_bad (s : RB) : (rbInt s).2.bad = (s.bad || decide ((intO s.t).2.1 ≠ 0)) := rfl
set_option maxHeartbeats 2000000 in
theorem rint_spec {w : World} {rr rb : Nat} {s : RB} (hh : Holds [(rr, rdrC rb s.bad), (rb, rdC s.t)] w) (ht : s.t.length ≤ 70368744177664) :
    Cl Tryd.prog f_manifest_reader_int [ptr rr] w fun v w' => v = .int .i64 (rbInt s).1 ∧ St w [rr, rb] [(rr, rdrC rb (rbInt s).2.bad), (rb, rdC (rbInt s).2.t)] w' := by
  have hS : St w [rr, rb] [(rr, rdrC rb s.bad), (rb, rdC s.t)] w := St.enter hh
  refine en_manifest_reader_int rfl ?_
  repeat (first | refine SemW.run tblOk ?_ | refine IntG.nw (by omega) ?_ | refine IntG.nu8 (by omega) ?_ | refine IntG.nu32 (by omega) ?_ | refine IntG.nu64 (by omega) ?_ | refine IntG.wr' rfl ?_ | refine Chk.mk (by omega) ?_ | (refine BrG.id ?_; first | with_reducible refine BrG.t ?_ | with_reducible refine BrG.f ?_ | with_reducible refine BrG.notG ?_ | with_reducible refine BrG.nn ?_ | with_reducible refine BrG.ns ?_ | refine BrG.pos (by omega) ?_ | refine BrG.neg (by omega) ?_ | with_reducible refine BrG.pos rfl ?_ | refine BrG.pos (by assumption) ?_ | refine BrG.neg (by assumption) ?_ | refine BrG.pos (by decide) ?_ | refine BrG.neg (by decide) ?_) | refine Chk.mk (ptr_ok tblOk rfl rfl) ?_ | refine Chk.mk (by decide) ?_ | refine hS.ld rfl ?_ | refine hS.ldn rfl ?_ | (refine hS.st rfl rfl ?_; intro _ hS))
  refine Cl.mono (RInt_spec (hS.part (L := [(rb, rdC s.t)])) ht) ?_
  rintro _ w1 ⟨rfl, hS'⟩
  have hS := hS.call (L := [(rb, rdC s.t)]) hS'
  have hS : St w [rr, rb] [(rr, .cells ⟨[ptr rb, .bool s.bad]⟩ T_manifest_reader (0, 0)), (rb, .cells ⟨[Str (intO s.t).2.2]⟩ T_pack_Reader (0, 0))] w1 := hS
  repeat (first | refine SemW.run tblOk ?_ | refine IntG.nw (by omega) ?_ | refine IntG.nu8 (by omega) ?_ | refine IntG.nu32 (by omega) ?_ | refine IntG.nu64 (by omega) ?_ | refine IntG.wr' rfl ?_ | refine Chk.mk (by omega) ?_ | (refine BrG.id ?_; first | with_reducible refine BrG.t ?_ | with_reducible refine BrG.f ?_ | with_reducible refine BrG.notG ?_ | with_reducible refine BrG.nn ?_ | with_reducible refine BrG.ns ?_ | refine BrG.pos (by omega) ?_ | refine BrG.neg (by omega) ?_ | with_reducible refine BrG.pos rfl ?_ | refine BrG.pos (by assumption) ?_ | refine BrG.neg (by assumption) ?_ | refine BrG.pos (by decide) ?_ | refine BrG.neg (by decide) ?_) | refine Chk.mk (ptr_ok tblOk rfl rfl) ?_ | refine Chk.mk (by decide) ?_ | refine hS.ld rfl ?_ | refine hS.ldn rfl ?_ | (refine hS.st rfl rfl ?_; intro _ hS))
  obtain ⟨t, bad⟩ := s
  have he := intO_err t
  unfold rbInt
  simp only at hS he ⊢
  generalize intO t = x at hS he ⊢
  obtain ⟨z, er, r⟩ := x
  simp only at hS he ⊢
  cases bad with
  | true =>
    repeat (first | refine SemW.run tblOk ?_ | refine IntG.nw (by omega) ?_ | refine IntG.nu8 (by omega) ?_ | refine IntG.nu32 (by omega) ?_ | refine IntG.nu64 (by omega) ?_ | refine IntG.wr' rfl ?_ | refine Chk.mk (by omega) ?_ | (refine BrG.id ?_; first | with_reducible refine BrG.t ?_ | with_reducible refine BrG.f ?_ | with_reducible refine BrG.notG ?_ | with_reducible refine BrG.nn ?_ | with_reducible refine BrG.ns ?_ | refine BrG.pos (by omega) ?_ | refine BrG.neg (by omega) ?_ | with_reducible refine BrG.pos rfl ?_ | refine BrG.pos (by assumption) ?_ | refine BrG.neg (by assumption) ?_ | refine BrG.pos (by decide) ?_ | refine BrG.neg (by decide) ?_) | refine Chk.mk (ptr_ok tblOk rfl rfl) ?_ | refine Chk.mk (by decide) ?_ | refine hS.ld rfl ?_ | refine hS.ldn rfl ?_ | (refine hS.st rfl rfl ?_; intro _ hS))
    exact ⟨rfl, hS⟩
  | false =>
    rcases he with rfl | rfl
    · repeat (first | refine SemW.run tblOk ?_ | refine IntG.nw (by omega) ?_ | refine IntG.nu8 (by omega) ?_ | refine IntG.nu32 (by omega) ?_ | refine IntG.nu64 (by omega) ?_ | refine IntG.wr' rfl ?_ | refine Chk.mk (by omega) ?_ | (refine BrG.id ?_; first | with_reducible refine BrG.t ?_ | with_reducible refine BrG.f ?_ | with_reducible refine BrG.notG ?_ | with_reducible refine BrG.nn ?_ | with_reducible refine BrG.ns ?_ | refine BrG.pos (by omega) ?_ | refine BrG.neg (by omega) ?_ | with_reducible refine BrG.pos rfl ?_ | refine BrG.pos (by assumption) ?_ | refine BrG.neg (by assumption) ?_ | refine BrG.pos (by decide) ?_ | refine BrG.neg (by decide) ?_) | refine Chk.mk (ptr_ok tblOk rfl rfl) ?_ | refine Chk.mk (by decide) ?_ | refine hS.ld rfl ?_ | refine hS.ldn rfl ?_ | (refine hS.st rfl rfl ?_; intro _ hS))
      exact ⟨rfl, hS⟩
    · repeat (first | refine SemW.run tblOk ?_ | refine IntG.nw (by omega) ?_ | refine IntG.nu8 (by omega) ?_ | refine IntG.nu32 (by omega) ?_ | refine IntG.nu64 (by omega) ?_ | refine IntG.wr' rfl ?_ | refine Chk.mk (by omega) ?_ | (refine BrG.id ?_; first | with_reducible refine BrG.t ?_ | with_reducible refine BrG.f ?_ | with_reducible refine BrG.notG ?_ | with_reducible refine BrG.nn ?_ | with_reducible refine BrG.ns ?_ | refine BrG.pos (by omega) ?_ | refine BrG.neg (by omega) ?_ | with_reducible refine BrG.pos rfl ?_ | refine BrG.pos (by assumption) ?_ | refine BrG.neg (by assumption) ?_ | refine BrG.pos (by decide) ?_ | refine BrG.neg (by decide) ?_) | refine Chk.mk (ptr_ok tblOk rfl rfl) ?_ | refine Chk.mk (by decide) ?_ | refine hS.ld rfl ?_ | refine hS.ldn rfl ?_ | (refine hS.st rfl rfl ?_; intro _ hS))
      exact ⟨rfl, hS⟩
def secF (s : RB) : FileM × RB := (((rbInt s).1, (rbInt (rbInt s).2).1), (rbInt (rbInt s).2).2)
set_option maxHeartbeats 4000000 in
theorem rdFile_spec {w : World} {rr rb b4 b5 : Nat} {s : RB} {a : Option Addr} {c : Nat} {l : List FileM} {L : Heap} (hv : Vec T_api_File 2 a l.length c (l.flatMap fileC) L) (hh : Holds ((rr, .cells ⟨[ptr rb, .bool s.bad]⟩ T_manifest_reader (0, 0)) :: (rb, .cells ⟨[Str s.t]⟩ T_pack_Reader (0, 0)) :: (b4, .cells ⟨[ptr rr]⟩ T_Ptr_manifest_reader (0, 0)) :: (b5, .cells ⟨[.slice a l.length c, .slice none 0 0, .int .i64 0, .int .i64 0, .int .i64 0]⟩ T_api_Edit (0, 0)) :: L) w) (ht : s.t.length ≤ 70368744177664) (hl : l.length ≤ 4398046511104) :
    Cl Tryd.prog f_manifest_Decode_1 [ptr b4, ptr b5] w fun _ w' => ∃ a' c' L', Vec T_api_File 2 a' (l ++ [(secF s).1]).length c' ((l ++ [(secF s).1]).flatMap fileC) L' ∧ St w (rr :: rb :: b4 :: b5 :: keys L) ((rr, .cells ⟨[ptr rb, .bool (secF s).2.bad]⟩ T_manifest_reader (0, 0)) :: (rb, .cells ⟨[Str (secF s).2.t]⟩ T_pack_Reader (0, 0)) :: (b4, .cells ⟨[ptr rr]⟩ T_Ptr_manifest_reader (0, 0)) :: (b5, .cells ⟨[.slice a' (l ++ [(secF s).1]).length c', .slice none 0 0, .int .i64 0, .int .i64 0, .int .i64 0]⟩ T_api_Edit (0, 0)) :: L') w' := by
  have hS : St w (rr :: rb :: b4 :: b5 :: keys L) ((rr, .cells ⟨[ptr rb, .bool s.bad]⟩ T_manifest_reader (0, 0)) :: (rb, .cells ⟨[Str s.t]⟩ T_pack_Reader (0, 0)) :: (b4, .cells ⟨[ptr rr]⟩ T_Ptr_manifest_reader (0, 0)) :: (b5, .cells ⟨[.slice a l.length c, .slice none 0 0, .int .i64 0, .int .i64 0, .int .i64 0]⟩ T_api_Edit (0, 0)) :: L) w := St.enter hh
  have hlen := intO_len s.t
  generalize (rr :: rb :: b4 :: b5 :: keys L) = T at hS ⊢
  refine en_manifest_Decode_1 rfl ?_
  repeat (first | refine SemW.run tblOk ?_ | refine IntG.nw (by omega) ?_ | refine IntG.nu8 (by omega) ?_ | refine IntG.nu32 (by omega) ?_ | refine IntG.nu64 (by omega) ?_ | refine IntG.wr' rfl ?_ | refine Chk.mk (by omega) ?_ | (refine BrG.id ?_; first | with_reducible refine BrG.t ?_ | with_reducible refine BrG.f ?_ | with_reducible refine BrG.notG ?_ | with_reducible refine BrG.nn ?_ | with_reducible refine BrG.ns ?_ | refine BrG.pos (by omega) ?_ | refine BrG.neg (by omega) ?_ | with_reducible refine BrG.pos rfl ?_ | refine BrG.pos (by assumption) ?_ | refine BrG.neg (by assumption) ?_ | refine BrG.pos (by decide) ?_ | refine BrG.neg (by decide) ?_) | refine Chk.mk (ptr_ok tblOk rfl rfl) ?_ | refine Chk.mk (by decide) ?_ | refine hS.ld rfl ?_ | refine hS.ldn rfl ?_ | (refine hS.st rfl rfl ?_; intro _ hS))
  refine Cl.mono (rint_spec (s := s) (hS.part (L := [(rr, rdrC rb s.bad), (rb, rdC s.t)])) ht) ?_
  rintro _ w1 ⟨rfl, hS'⟩
  have hS := hS.call (L := [(rr, rdrC rb s.bad), (rb, rdC s.t)]) hS'
  unfold secF
  have hlen2 : (rbInt s).2.t.length ≤ s.t.length := hlen
  generalize rbInt s = x1 at hS hlen2 ⊢
  obtain ⟨z1, s1⟩ := x1
  simp only at hS hlen2 ⊢
  have hS : St w T ((rr, .cells ⟨[ptr rb, .bool s1.bad]⟩ T_manifest_reader (0, 0)) :: (rb, .cells ⟨[Str s1.t]⟩ T_pack_Reader (0, 0)) :: (b4, .cells ⟨[ptr rr]⟩ T_Ptr_manifest_reader (0, 0)) :: (b5, .cells ⟨[.slice a l.length c, .slice none 0 0, .int .i64 0, .int .i64 0, .int .i64 0]⟩ T_api_Edit (0, 0)) :: L) w1 := hS
  repeat (first | refine SemW.run tblOk ?_ | refine IntG.nw (by omega) ?_ | refine IntG.nu8 (by omega) ?_ | refine IntG.nu32 (by omega) ?_ | refine IntG.nu64 (by omega) ?_ | refine IntG.wr' rfl ?_ | refine Chk.mk (by omega) ?_ | (refine BrG.id ?_; first | with_reducible refine BrG.t ?_ | with_reducible refine BrG.f ?_ | with_reducible refine BrG.notG ?_ | with_reducible refine BrG.nn ?_ | with_reducible refine BrG.ns ?_ | refine BrG.pos (by omega) ?_ | refine BrG.neg (by omega) ?_ | with_reducible refine BrG.pos rfl ?_ | refine BrG.pos (by assumption) ?_ | refine BrG.neg (by assumption) ?_ | refine BrG.pos (by decide) ?_ | refine BrG.neg (by decide) ?_) | refine Chk.mk (ptr_ok tblOk rfl rfl) ?_ | refine Chk.mk (by decide) ?_ | refine hS.ld rfl ?_ | refine hS.ldn rfl ?_ | (refine hS.st rfl rfl ?_; intro _ hS))
  refine SemW.draw tblOk mixed (fun w' => St w T [(b4, .cells ⟨[ptr rr]⟩ T_Ptr_manifest_reader (0, 0)), (b5, .cells ⟨[.slice a l.length c, .slice none 0 0, .int .i64 0, .int .i64 0, .int .i64 0]⟩ T_api_Edit (0, 0))] w') [9] [0, 1, 2, 3, 4, 5, 6, 7, 8, 9] (by kernel_rfl) (hS.drew.sub (sub4 _ _ _ _ _)) ?_
  have hV := hS.drew
  have hS : St w T [(b4, .cells ⟨[ptr rr]⟩ T_Ptr_manifest_reader (0, 0)), (b5, .cells ⟨[.slice a l.length c, .slice none 0 0, .int .i64 0, .int .i64 0, .int .i64 0]⟩ T_api_Edit (0, 0))] _ := hV.sub (sub4 _ _ _ _ _)
  repeat (first | refine SemW.run tblOk ?_ | refine IntG.nw (by omega) ?_ | refine IntG.nu8 (by omega) ?_ | refine IntG.nu32 (by omega) ?_ | refine IntG.nu64 (by omega) ?_ | refine IntG.wr' rfl ?_ | refine Chk.mk (by omega) ?_ | (refine BrG.id ?_; first | with_reducible refine BrG.t ?_ | with_reducible refine BrG.f ?_ | with_reducible refine BrG.notG ?_ | with_reducible refine BrG.nn ?_ | with_reducible refine BrG.ns ?_ | refine BrG.pos (by omega) ?_ | refine BrG.neg (by omega) ?_ | with_reducible refine BrG.pos rfl ?_ | refine BrG.pos (by assumption) ?_ | refine BrG.neg (by assumption) ?_ | refine BrG.pos (by decide) ?_ | refine BrG.neg (by decide) ?_) | refine Chk.mk (ptr_ok tblOk rfl rfl) ?_ | refine Chk.mk (by decide) ?_ | refine hS.ldC rfl ?_ | refine hS.ldnC rfl ?_)
  refine Cl.mono (rint_spec (s := s1) (hV.part (L := [(rr, rdrC rb s1.bad), (rb, rdC s1.t)])) (by omega)) ?_
  rintro _ w2 ⟨rfl, hS'⟩
  have hV := hV.call (L := [(rr, rdrC rb s1.bad), (rb, rdC s1.t)]) hS'
  generalize rbInt s1 = x2 at hV ⊢
  obtain ⟨z2, s2⟩ := x2
  simp only at hV ⊢
  have hV : St w T ((rr, .cells ⟨[ptr rb, .bool s2.bad]⟩ T_manifest_reader (0, 0)) :: (rb, .cells ⟨[Str s2.t]⟩ T_pack_Reader (0, 0)) :: (b4, .cells ⟨[ptr rr]⟩ T_Ptr_manifest_reader (0, 0)) :: (b5, .cells ⟨[.slice a l.length c, .slice none 0 0, .int .i64 0, .int .i64 0, .int .i64 0]⟩ T_api_Edit (0, 0)) :: L) w2 := hV
  refine Chk.mk (hV.sub (sub4 _ _ _ _ _)) ?_
  repeat (first | refine SemW.run tblOk ?_ | refine IntG.nw (by omega) ?_ | refine IntG.nu8 (by omega) ?_ | refine IntG.nu32 (by omega) ?_ | refine IntG.nu64 (by omega) ?_ | refine IntG.wr' rfl ?_ | refine Chk.mk (by omega) ?_ | (refine BrG.id ?_; first | with_reducible refine BrG.t ?_ | with_reducible refine BrG.f ?_ | with_reducible refine BrG.notG ?_ | with_reducible refine BrG.nn ?_ | with_reducible refine BrG.ns ?_ | refine BrG.pos (by omega) ?_ | refine BrG.neg (by omega) ?_ | with_reducible refine BrG.pos rfl ?_ | refine BrG.pos (by assumption) ?_ | refine BrG.neg (by assumption) ?_ | refine BrG.pos (by decide) ?_ | refine BrG.neg (by decide) ?_) | refine Chk.mk (ptr_ok tblOk rfl rfl) ?_ | refine Chk.mk (by decide) ?_ | refine hS.ldC rfl ?_ | refine hS.ldnC rfl ?_)
  refine hV.al ?_
  intro r w3 _ hV
  refine Chk.mk ((St.tl1 hV).sub (sub4 _ _ _ _ _)) ?_
  repeat (first | refine SemW.run tblOk ?_ | refine IntG.nw (by omega) ?_ | refine IntG.nu8 (by omega) ?_ | refine IntG.nu32 (by omega) ?_ | refine IntG.nu64 (by omega) ?_ | refine IntG.wr' rfl ?_ | refine Chk.mk (by omega) ?_ | (refine BrG.id ?_; first | with_reducible refine BrG.t ?_ | with_reducible refine BrG.f ?_ | with_reducible refine BrG.notG ?_ | with_reducible refine BrG.nn ?_ | with_reducible refine BrG.ns ?_ | refine BrG.pos (by omega) ?_ | refine BrG.neg (by omega) ?_ | with_reducible refine BrG.pos rfl ?_ | refine BrG.pos (by assumption) ?_ | refine BrG.neg (by assumption) ?_ | refine BrG.pos (by decide) ?_ | refine BrG.neg (by decide) ?_) | refine Chk.mk (ptr_ok tblOk rfl rfl) ?_ | refine Chk.mk (by decide) ?_ | refine hS.ldC rfl ?_ | refine hS.ldnC rfl ?_)
  refine St.app (sz := 2) (m := 1) tblOk rfl rfl rfl rfl hV hv (news := fileC (z1, z2)) rfl (by have := hV.arr (b := r) (T' := []) (by simp); exact this) rfl (by show (_ + _) * 16 ≤ _; omega) (by omega) ?_
  intro a2 c2 L2 w4 hv hV
  have e9 : l.flatMap fileC ++ fileC (z1, z2) = (l ++ [(z1, z2)]).flatMap fileC := by simp
  have e8 : l.length + 1 = (l ++ [(z1, z2)]).length := by simp
  rw [e9, e8] at hv
  rw [e8]
  refine Chk.mk ((St.tl1 hV).sub (sub4 _ _ _ _ _)) ?_
  have hS := St.tl1 hV
  repeat (first | refine SemW.run tblOk ?_ | refine IntG.nw (by omega) ?_ | refine IntG.nu8 (by omega) ?_ | refine IntG.nu32 (by omega) ?_ | refine IntG.nu64 (by omega) ?_ | refine IntG.wr' rfl ?_ | refine Chk.mk (by omega) ?_ | (refine BrG.id ?_; first | with_reducible refine BrG.t ?_ | with_reducible refine BrG.f ?_ | with_reducible refine BrG.notG ?_ | with_reducible refine BrG.nn ?_ | with_reducible refine BrG.ns ?_ | refine BrG.pos (by omega) ?_ | refine BrG.neg (by omega) ?_ | with_reducible refine BrG.pos rfl ?_ | refine BrG.pos (by assumption) ?_ | refine BrG.neg (by assumption) ?_ | refine BrG.pos (by decide) ?_ | refine BrG.neg (by decide) ?_) | refine Chk.mk (ptr_ok tblOk rfl rfl) ?_ | refine Chk.mk (by decide) ?_ | refine hS.ld rfl ?_ | refine hS.ldn rfl ?_ | (refine hS.st rfl rfl ?_; intro _ hS))
  exact ⟨a2, c2, L2, hv, hS⟩
def bit (b : Bool) : Nat := if b = true then 1 else 0
theorem secF_len {s : RB} (h : s.bad = false) : (secF s).2.t.length + 1 ≤ s.t.length + bit (secF s).2.bad := by
  have h1 := intO_len s.t
  have h2 := intO_len (intO s.t).2.2
  unfold secF rbInt bit
  simp only [h, Bool.false_or]
  by_cases e1 : (intO s.t).2.1 = 0
  · have h3 := intO_len' e1
    split <;> omega
  · rw [decide_eq_true e1, Bool.true_or, if_pos rfl]; omega
structure EFI where
  i : Nat
  s : RB
  l : List FileM
  a : Option Addr
  c : Nat
def closF (b4 b5 : Nat) : Value := .func (.func f_manifest_Decode_1) ⟨[]⟩ ⟨[ptr b4, ptr b5]⟩
theorem rdF_step (n : Nat) (s : RB) (l : List FileM) (h : s.bad = false) : rdF (n + 1) (s, l) = rdF n ((secF s).2, l ++ [(secF s).1]) := by
  conv => lhs; unfold rdF
  rw [if_neg (by rw [h]; nofun)]; rfl
theorem rdF_stop (n : Nat) (s : RB) (l : List FileM) (h : s.bad = true) : rdF n (s, l) = (s, l) := by
  cases n with
  | zero => rfl
  | succ n => unfold rdF; rw [if_pos h]
set_option maxHeartbeats 4000000 in
theorem eachF_spec {w : World} {rr rb b4 b5 N : Nat} {s : RB} {a : Option Addr} {c : Nat} {l : List FileM} {L : Heap} (hv : Vec T_api_File 2 a l.length c (l.flatMap fileC) L) (hh : Holds ((rr, .cells ⟨[ptr rb, .bool s.bad]⟩ T_manifest_reader (0, 0)) :: (rb, .cells ⟨[Str s.t]⟩ T_pack_Reader (0, 0)) :: (b4, .cells ⟨[ptr rr]⟩ T_Ptr_manifest_reader (0, 0)) :: (b5, .cells ⟨[.slice a l.length c, .slice none 0 0, .int .i64 0, .int .i64 0, .int .i64 0]⟩ T_api_Edit (0, 0)) :: L) w) (hb : s.bad = false) (hN : l.length + s.t.length ≤ N) (hN2 : N ≤ 1099511627776) :
    Cl Tryd.prog f_manifest_reader_each [ptr rr, closF b4 b5] w fun _ w' => ∃ a' c' L', Vec T_api_File 2 a' (rdF (rbNum s).1 ((rbNum s).2, l)).2.length c' ((rdF (rbNum s).1 ((rbNum s).2, l)).2.flatMap fileC) L' ∧ St w (rr :: rb :: b4 :: b5 :: keys L) ((rr, .cells ⟨[ptr rb, .bool (rdF (rbNum s).1 ((rbNum s).2, l)).1.bad]⟩ T_manifest_reader (0, 0)) :: (rb, .cells ⟨[Str (rdF (rbNum s).1 ((rbNum s).2, l)).1.t]⟩ T_pack_Reader (0, 0)) :: (b4, .cells ⟨[ptr rr]⟩ T_Ptr_manifest_reader (0, 0)) :: (b5, .cells ⟨[.slice a' (rdF (rbNum s).1 ((rbNum s).2, l)).2.length c', .slice none 0 0, .int .i64 0, .int .i64 0, .int .i64 0]⟩ T_api_Edit (0, 0)) :: L') w' := by
  have hS : St w (rr :: rb :: b4 :: b5 :: keys L) ((rr, .cells ⟨[ptr rb, .bool s.bad]⟩ T_manifest_reader (0, 0)) :: (rb, .cells ⟨[Str s.t]⟩ T_pack_Reader (0, 0)) :: (b4, .cells ⟨[ptr rr]⟩ T_Ptr_manifest_reader (0, 0)) :: (b5, .cells ⟨[.slice a l.length c, .slice none 0 0, .int .i64 0, .int .i64 0, .int .i64 0]⟩ T_api_Edit (0, 0)) :: L) w := St.enter hh
  have hnl := numO_len s.t
  have hlt := numO_lt s.t
  have hne := numO_err s.t
  generalize (rr :: rb :: b4 :: b5 :: keys L) = T at hS ⊢
  unfold closF
  refine en_manifest_reader_each rfl ?_
  repeat (first | refine SemW.run tblOk ?_ | refine IntG.nw (by omega) ?_ | refine IntG.nu8 (by omega) ?_ | refine IntG.nu32 (by omega) ?_ | refine IntG.nu64 (by omega) ?_ | refine IntG.wr' rfl ?_ | refine Chk.mk (by omega) ?_ | (refine BrG.id ?_; first | with_reducible refine BrG.t ?_ | with_reducible refine BrG.f ?_ | with_reducible refine BrG.notG ?_ | with_reducible refine BrG.nn ?_ | with_reducible refine BrG.ns ?_ | refine BrG.pos (by omega) ?_ | refine BrG.neg (by omega) ?_ | with_reducible refine BrG.pos rfl ?_ | refine BrG.pos (by assumption) ?_ | refine BrG.neg (by assumption) ?_ | refine BrG.pos (by decide) ?_ | refine BrG.neg (by decide) ?_) | refine Chk.mk (ptr_ok tblOk rfl rfl) ?_ | refine Chk.mk (by decide) ?_ | refine hS.ld rfl ?_ | refine hS.ldn rfl ?_ | (refine hS.st rfl rfl ?_; intro _ hS))
  refine Cl.mono (RNum_spec (hS.part (L := [(rb, rdC s.t)])) (by omega)) ?_
  rintro _ w1 ⟨rfl, hS'⟩
  have hS := hS.call (L := [(rb, rdC s.t)]) hS'
  obtain ⟨t, bad⟩ := s
  simp only at hb hS hnl hlt hne hN ⊢
  subst hb
  have hrn : rbNum ⟨t, false⟩ = ((numO t).1, ⟨(numO t).2.2, decide ((numO t).2.1 ≠ 0)⟩) := rfl
  rw [hrn]
  simp only
  generalize numO t = x1 at hS hnl hlt hne ⊢
  obtain ⟨n, er, t1⟩ := x1
  simp only at hS hnl hlt hne ⊢
  have hS : St w T ((rr, .cells ⟨[ptr rb, .bool false]⟩ T_manifest_reader (0, 0)) :: (rb, .cells ⟨[Str t1]⟩ T_pack_Reader (0, 0)) :: (b4, .cells ⟨[ptr rr]⟩ T_Ptr_manifest_reader (0, 0)) :: (b5, .cells ⟨[.slice a l.length c, .slice none 0 0, .int .i64 0, .int .i64 0, .int .i64 0]⟩ T_api_Edit (0, 0)) :: L) w1 := hS
  have hbd : (!decide (er = 0)) = decide (er ≠ 0) := by simp
  generalize hX : rdF n (⟨t1, decide (er ≠ 0)⟩, l) = X
  have hj : (0 ≤ n ∧ rdF (n - 0) (⟨t1, decide (er ≠ 0)⟩, l) = X ∧ l.length + t1.length ≤ N + bit (decide (er ≠ 0))) := ⟨Nat.zero_le _, hX, by unfold bit; split <;> omega⟩
  repeat (first | refine SemW.run tblOk ?_ | refine IntG.nw (by omega) ?_ | refine IntG.nu8 (by omega) ?_ | refine IntG.nu32 (by omega) ?_ | refine IntG.nu64 (by omega) ?_ | refine IntG.wr' rfl ?_ | refine Chk.mk (by omega) ?_ | (refine BrG.id ?_; first | with_reducible refine BrG.t ?_ | with_reducible refine BrG.f ?_ | with_reducible refine BrG.notG ?_ | with_reducible refine BrG.nn ?_ | with_reducible refine BrG.ns ?_ | refine BrG.pos (by omega) ?_ | refine BrG.neg (by omega) ?_ | with_reducible refine BrG.pos rfl ?_ | refine BrG.pos (by assumption) ?_ | refine BrG.neg (by assumption) ?_ | refine BrG.pos (by decide) ?_ | refine BrG.neg (by decide) ?_) | refine Chk.mk (ptr_ok tblOk rfl rfl) ?_ | refine Chk.mk (by decide) ?_ | refine hS.ld rfl ?_ | refine hS.ldn rfl ?_ | (refine hS.st rfl rfl ?_; intro _ hS))
  refine SemW.loop (fun z : EFI => [(0, ptr rr), (1, .func (.func f_manifest_Decode_1) ⟨[]⟩ ⟨[ptr b4, ptr b5]⟩), (4, .int .u64 n), (6, .int .u64 z.i)])
    (fun z w' => (z.i ≤ n ∧ rdF (n - z.i) (z.s, z.l) = X ∧ z.l.length + z.s.t.length ≤ N + bit z.s.bad) ∧ ∃ L, Vec T_api_File 2 z.a z.l.length z.c (z.l.flatMap fileC) L ∧ St w T ((rr, .cells ⟨[ptr rb, .bool z.s.bad]⟩ T_manifest_reader (0, 0)) :: (rb, .cells ⟨[Str z.s.t]⟩ T_pack_Reader (0, 0)) :: (b4, .cells ⟨[ptr rr]⟩ T_Ptr_manifest_reader (0, 0)) :: (b5, .cells ⟨[.slice z.a z.l.length z.c, .slice none 0 0, .int .i64 0, .int .i64 0, .int .i64 0]⟩ T_api_Edit (0, 0)) :: L) w') (fun z => n - z.i) ⟨0, ⟨t1, decide (er ≠ 0)⟩, l, a, c⟩
    ⟨rfl, rfl, rfl, rfl, trivial⟩ ⟨hj, L, hv, by rw [hbd] at hS; exact hS⟩ ?_
  clear hS hj hX hbd hv hS' hrn
  rintro ⟨i, s, l, a, c⟩ w2 ⟨⟨hi, hx, hsz⟩, L, hv, hS⟩
  simp only at hi hx hsz hv hS ⊢
  by_cases hin : i < n
  · cases hb : s.bad with
    | true =>
      rw [rdF_stop _ _ _ hb] at hx
      subst hx
      rw [hb] at hS
      repeat (first | refine SemW.run tblOk ?_ | refine IntG.nw (by omega) ?_ | refine IntG.nu8 (by omega) ?_ | refine IntG.nu32 (by omega) ?_ | refine IntG.nu64 (by omega) ?_ | refine IntG.wr' rfl ?_ | refine Chk.mk (by omega) ?_ | (refine BrG.id ?_; first | with_reducible refine BrG.t ?_ | with_reducible refine BrG.f ?_ | with_reducible refine BrG.notG ?_ | with_reducible refine BrG.nn ?_ | with_reducible refine BrG.ns ?_ | refine BrG.pos (by omega) ?_ | refine BrG.neg (by omega) ?_ | with_reducible refine BrG.pos rfl ?_ | refine BrG.pos (by assumption) ?_ | refine BrG.neg (by assumption) ?_ | refine BrG.pos (by decide) ?_ | refine BrG.neg (by decide) ?_) | refine Chk.mk (ptr_ok tblOk rfl rfl) ?_ | refine Chk.mk (by decide) ?_ | refine hS.ld rfl ?_ | refine hS.ldn rfl ?_ | (refine hS.st rfl rfl ?_; intro _ hS))
      rw [← hb] at hS
      exact ⟨a, c, L, hv, hS⟩
    | false =>
      have hsl := secF_len hb
      rw [show n - i = (n - (i + 1)) + 1 by omega, rdF_step _ _ _ hb] at hx
      have hb0 : bit s.bad = 0 := by rw [hb]; rfl
      have hSb := hS
      rw [hb] at hS
      repeat (first | refine SemW.run tblOk ?_ | refine IntG.nw (by omega) ?_ | refine IntG.nu8 (by omega) ?_ | refine IntG.nu32 (by omega) ?_ | refine IntG.nu64 (by omega) ?_ | refine IntG.wr' rfl ?_ | refine Chk.mk (by omega) ?_ | (refine BrG.id ?_; first | with_reducible refine BrG.t ?_ | with_reducible refine BrG.f ?_ | with_reducible refine BrG.notG ?_ | with_reducible refine BrG.nn ?_ | with_reducible refine BrG.ns ?_ | refine BrG.pos (by omega) ?_ | refine BrG.neg (by omega) ?_ | with_reducible refine BrG.pos rfl ?_ | refine BrG.pos (by assumption) ?_ | refine BrG.neg (by assumption) ?_ | refine BrG.pos (by decide) ?_ | refine BrG.neg (by decide) ?_) | refine Chk.mk (ptr_ok tblOk rfl rfl) ?_ | refine Chk.mk (by decide) ?_ | refine hS.ld rfl ?_ | refine hS.ldn rfl ?_ | (refine hS.st rfl rfl ?_; intro _ hS))
      refine Cl.mono (rdFile_spec (s := s) hv hSb.holds (by omega) (by omega)) ?_
      rintro _ w3 ⟨a', c', L', hv', hS'⟩
      have hS := St.callAll hSb hS'
      repeat (first | refine SemW.run tblOk ?_ | refine IntG.nw (by omega) ?_ | refine IntG.nu8 (by omega) ?_ | refine IntG.nu32 (by omega) ?_ | refine IntG.nu64 (by omega) ?_ | refine IntG.wr' rfl ?_ | refine Chk.mk (by omega) ?_ | (refine BrG.id ?_; first | with_reducible refine BrG.t ?_ | with_reducible refine BrG.f ?_ | with_reducible refine BrG.notG ?_ | with_reducible refine BrG.nn ?_ | with_reducible refine BrG.ns ?_ | refine BrG.pos (by omega) ?_ | refine BrG.neg (by omega) ?_ | with_reducible refine BrG.pos rfl ?_ | refine BrG.pos (by assumption) ?_ | refine BrG.neg (by assumption) ?_ | refine BrG.pos (by decide) ?_ | refine BrG.neg (by decide) ?_) | refine Chk.mk (ptr_ok tblOk rfl rfl) ?_ | refine Chk.mk (by decide) ?_ | refine hS.ld rfl ?_ | refine hS.ldn rfl ?_ | (refine hS.st rfl rfl ?_; intro _ hS))
      exact ⟨⟨i + 1, (secF s).2, l ++ [(secF s).1], a', c'⟩, ⟨rfl, rfl, rfl, rfl, trivial⟩, ⟨⟨by simp only; omega, hx, by simp only [List.length_append, List.length_singleton]; omega⟩, L', hv', hS⟩, by simp only; omega⟩
  · have hie : n - i = 0 := by omega
    rw [hie] at hx
    have hx : (s, l) = X := hx
    subst hx
    repeat (first | refine SemW.run tblOk ?_ | refine IntG.nw (by omega) ?_ | refine IntG.nu8 (by omega) ?_ | refine IntG.nu32 (by omega) ?_ | refine IntG.nu64 (by omega) ?_ | refine IntG.wr' rfl ?_ | refine Chk.mk (by omega) ?_ | (refine BrG.id ?_; first | with_reducible refine BrG.t ?_ | with_reducible refine BrG.f ?_ | with_reducible refine BrG.notG ?_ | with_reducible refine BrG.nn ?_ | with_reducible refine BrG.ns ?_ | refine BrG.pos (by omega) ?_ | refine BrG.neg (by omega) ?_ | with_reducible refine BrG.pos rfl ?_ | refine BrG.pos (by assumption) ?_ | refine BrG.neg (by assumption) ?_ | refine BrG.pos (by decide) ?_ | refine BrG.neg (by decide) ?_) | refine Chk.mk (ptr_ok tblOk rfl rfl) ?_ | refine Chk.mk (by decide) ?_ | refine hS.ld rfl ?_ | refine hS.ldn rfl ?_ | (refine hS.st rfl rfl ?_; intro _ hS))
    exact ⟨a, c, L, hv, hS⟩
end Go.Proofs.YtkncpdehgcldbaaDoor
