/- Decode: the manifest's, the document's. -/
import Derived.Test.YtkncpdehgcldbaaDoorEnc11
import Derived.Test.YtkncpdehgcldbaaDoorRef01RN
namespace Go.Proofs.YtkncpdehgcldbaaDoor
open Go Go.Eng Go.Proofs Go.Srt
theorem sub4 {α : Type} (p q x y : α) (L : List α) : [x, y].Sublist (p :: q :: x :: y :: L) := .cons _ (.cons _ (.cons_cons _ (.cons_cons _ (List.nil_sublist _))))
theorem St.callAll {w0 w w' : World} {T : List Nat} {H H' : Heap} (hS : St w0 T H w) (h : St w (keys H) H' w') : St w0 T H' w' := by
  have hS : St w0 T (H ++ []) w := by rw [List.append_nil]; exact hS
  have := hS.call (L := H) h
  rwa [List.append_nil] at this
abbrev rdrC (rb : Nat) (bad : Bool) : Obj := .cells ⟨[ptr rb, .bool bad]⟩ T_manifest_reader (0, 0)
theorem rbInt_bad (s : RB) : (rbInt s).2.bad = (s.bad || decide ((intO s.t).2.1 ≠ 0)) := rfl
set_option maxHeartbeats 2000000 in
theorem rint_spec {w : World} {rr rb : Nat} {s : RB} (hh : Holds [(rr, rdrC rb s.bad), (rb, rdC s.t)] w) (ht : s.t.length ≤ 70368744177664) :
    Cl Tryd.prog f_manifest_reader_int [ptr rr] w fun v w' => v = .int .i64 (rbInt s).1 ∧ St w [rr, rb] [(rr, rdrC rb (rbInt s).2.bad), (rb, rdC (rbInt s).2.t)] w' := by
  have hS : St w [rr, rb] [(rr, rdrC rb s.bad), (rb, rdC s.t)] w := St.enter hh
  refine en_manifest_reader_int rfl ?_
  repeat (first | refine SemW.run tblOk ?_ | refine IntG.nw (by omega) ?_ | refine IntG.nu8 (by omega) ?_ | refine IntG.nu32 (by omega) ?_ | refine IntG.nu64 (by omega) ?_ | refine IntG.wr' rfl ?_ | refine Chk.mk (by omega) ?_ | (refine BrG.id ?_; first | with_reducible refine BrG.t ?_ | with_reducible refine BrG.f ?_ | with_reducible refine BrG.notG ?_ | with_reducible refine BrG.nn ?_ | with_reducible refine BrG.ns ?_ | refine BrG.pos (by omega) ?_ | refine BrG.neg (by omega) ?_ | with_reducible refine BrG.pos rfl ?_ | refine BrG.pos (by assumption) ?_ | refine BrG.neg (by assumption) ?_ | refine BrG.pos (by decide) ?_ | refine BrG.neg (by decide) ?_) | refine Chk.mk (ptr_ok tblOk rfl rfl) ?_ | refine Chk.mk (by decide) ?_ | refine hS.ld rfl ?_ | refine hS.ldn rfl ?_ | (refine hS.st rfl rfl ?_; intro _ hS))
  refine Cl.mono (RInt_spec (hS.part (L := [(rb, rdC s.t)])) ht) ?_
  rintro _ w1 ⟨rfl, hS'⟩
  have hS := hS.call (L := [(rb, rdC s.t)]) hS'
  have hS : St w [rr, rb] [(rr, .cells ⟨[ptr rb, .bool s.bad]⟩ T_manifest_reader (0, 0)), (rb, .cells ⟨[Str (intO s.t).2.2]⟩ T_pack_Reader (0, 0))] w1 := hS
  repeat (first | refine SemW.run tblOk ?_ | refine IntG.nw (by omega) ?_ | refine IntG.nu8 (by omega) ?_ | refine IntG.nu32 (by omega) ?_ | refine IntG.nu64 (by omega) ?_ | refine IntG.wr' rfl ?_ | refine Chk.mk (by omega) ?_ | (refine BrG.id ?_; first | with_reducible refine BrG.t ?_ | with_reducible refine BrG.f ?_ | with_reducible refine BrG.notG ?_ | with_reducible refine BrG.nn ?_ | with_reducible refine BrG.ns ?_ | refine BrG.pos (by omega) ?_ | refine BrG.neg (by omega) ?_ | with_reducible refine BrG.pos rfl ?_ | refine BrG.pos (by assumption) ?_ | refine BrG.neg (by assumption) ?_ | refine BrG.pos (by decide) ?_ | refine BrG.neg (by decide) ?_) | refine Chk.mk (ptr_ok tblOk rfl rfl) ?_ | refine Chk.mk (by decide) ?_ | refine hS.ld rfl ?_ | refine hS.ldn rfl ?_ | (refine hS.st rfl rfl ?_; intro _ hS))
  obtain ⟨t, bad⟩ := s
  have he := intO_err t
  unfold rbInt
  simp only at hS he ⊢
  generalize intO t = x at hS he ⊢
  obtain ⟨z, er, r⟩ := x
  simp only at hS he ⊢
  cases bad with
  | true =>
    repeat (first | refine SemW.run tblOk ?_ | refine IntG.nw (by omega) ?_ | refine IntG.nu8 (by omega) ?_ | refine IntG.nu32 (by omega) ?_ | refine IntG.nu64 (by omega) ?_ | refine IntG.wr' rfl ?_ | refine Chk.mk (by omega) ?_ | (refine BrG.id ?_; first | with_reducible refine BrG.t ?_ | with_reducible refine BrG.f ?_ | with_reducible refine BrG.notG ?_ | with_reducible refine BrG.nn ?_ | with_reducible refine BrG.ns ?_ | refine BrG.pos (by omega) ?_ | refine BrG.neg (by omega) ?_ | with_reducible refine BrG.pos rfl ?_ | refine BrG.pos (by assumption) ?_ | refine BrG.neg (by assumption) ?_ | refine BrG.pos (by decide) ?_ | refine BrG.neg (by decide) ?_) | refine Chk.mk (ptr_ok tblOk rfl rfl) ?_ | refine Chk.mk (by decide) ?_ | refine hS.ld rfl ?_ | refine hS.ldn rfl ?_ | (refine hS.st rfl rfl ?_; intro _ hS))
    exact ⟨rfl, hS⟩
  | false =>
    rcases he with rfl | rfl
    · repeat (first | refine SemW.run tblOk ?_ | refine IntG.nw (by omega) ?_ | refine IntG.nu8 (by omega) ?_ | refine IntG.nu32 (by omega) ?_ | refine IntG.nu64 (by omega) ?_ | refine IntG.wr' rfl ?_ | refine Chk.mk (by omega) ?_ | (refine BrG.id ?_; first | with_reducible refine BrG.t ?_ | with_reducible refine BrG.f ?_ | with_reducible refine BrG.notG ?_ | with_reducible refine BrG.nn ?_ | with_reducible refine BrG.ns ?_ | refine BrG.pos (by omega) ?_ | refine BrG.neg (by omega) ?_ | with_reducible refine BrG.pos rfl ?_ | refine BrG.pos (by assumption) ?_ | refine BrG.neg (by assumption) ?_ | refine BrG.pos (by decide) ?_ | refine BrG.neg (by decide) ?_) | refine Chk.mk (ptr_ok tblOk rfl rfl) ?_ | refine Chk.mk (by decide) ?_ | refine hS.ld rfl ?_ | refine hS.ldn rfl ?_ | (refine hS.st rfl rfl ?_; intro _ hS))
      exact ⟨rfl, hS⟩
    · repeat (first | refine SemW.run tblOk ?_ | refine IntG.nw (by omega) ?_ | refine IntG.nu8 (by omega) ?_ | refine IntG.nu32 (by omega) ?_ | refine IntG.nu64 (by omega) ?_ | refine IntG.wr' rfl ?_ | refine Chk.mk (by omega) ?_ | (refine BrG.id ?_; first | with_reducible refine BrG.t ?_ | with_reducible refine BrG.f ?_ | with_reducible refine BrG.notG ?_ | with_reducible refine BrG.nn ?_ | with_reducible refine BrG.ns ?_ | refine BrG.pos (by omega) ?_ | refine BrG.neg (by omega) ?_ | with_reducible refine BrG.pos rfl ?_ | refine BrG.pos (by assumption) ?_ | refine BrG.neg (by assumption) ?_ | refine BrG.pos (by decide) ?_ | refine BrG.neg (by decide) ?_) | refine Chk.mk (ptr_ok tblOk rfl rfl) ?_ | refine Chk.mk (by decide) ?_ | refine hS.ld rfl ?_ | refine hS.ldn rfl ?_ | (refine hS.st rfl rfl ?_; intro _ hS))
      exact ⟨rfl, hS⟩
def secF (s : RB) : FileM × RB := (((rbInt s).1, (rbInt (rbInt s).2).1), (rbInt (rbInt s).2).2)
set_option maxHeartbeats 4000000 in
theorem rdFile_spec {w : World} {rr rb b4 b5 : Nat} {s : RB} {a : Option Addr} {c : Nat} {l : List FileM} {L : Heap} (hv : Vec T_api_File 2 a l.length c (l.flatMap fileC) L) (hh : Holds ((rr, .cells ⟨[ptr rb, .bool s.bad]⟩ T_manifest_reader (0, 0)) :: (rb, .cells ⟨[Str s.t]⟩ T_pack_Reader (0, 0)) :: (b4, .cells ⟨[ptr rr]⟩ T_Ptr_manifest_reader (0, 0)) :: (b5, .cells ⟨[.slice a l.length c, .slice none 0 0, .int .i64 0, .int .i64 0, .int .i64 0]⟩ T_api_Edit (0, 0)) :: L) w) (ht : s.t.length ≤ 70368744177664) (hl : l.length ≤ 4398046511104) :
    Cl Tryd.prog f_manifest_Decode_1 [ptr b4, ptr b5] w fun _ w' => ∃ a' c' L', Vec T_api_File 2 a' (l ++ [(secF s).1]).length c' ((l ++ [(secF s).1]).flatMap fileC) L' ∧ St w (rr :: rb :: b4 :: b5 :: keys L) ((rr, .cells ⟨[ptr rb, .bool (secF s).2.bad]⟩ T_manifest_reader (0, 0)) :: (rb, .cells ⟨[Str (secF s).2.t]⟩ T_pack_Reader (0, 0)) :: (b4, .cells ⟨[ptr rr]⟩ T_Ptr_manifest_reader (0, 0)) :: (b5, .cells ⟨[.slice a' (l ++ [(secF s).1]).length c', .slice none 0 0, .int .i64 0, .int .i64 0, .int .i64 0]⟩ T_api_Edit (0, 0)) :: L') w' := by
  have hS : St w (rr :: rb :: b4 :: b5 :: keys L) ((rr, .cells ⟨[ptr rb, .bool s.bad]⟩ T_manifest_reader (0, 0)) :: (rb, .cells ⟨[Str s.t]⟩ T_pack_Reader (0, 0)) :: (b4, .cells ⟨[ptr rr]⟩ T_Ptr_manifest_reader (0, 0)) :: (b5, .cells ⟨[.slice a l.length c, .slice none 0 0, .int .i64 0, .int .i64 0, .int .i64 0]⟩ T_api_Edit (0, 0)) :: L) w := St.enter hh
  have hlen := intO_len s.t
  generalize (rr :: rb :: b4 :: b5 :: keys L) = T at hS ⊢
  refine en_manifest_Decode_1 rfl ?_
  repeat (first | refine SemW.run tblOk ?_ | refine IntG.nw (by omega) ?_ | refine IntG.nu8 (by omega) ?_ | refine IntG.nu32 (by omega) ?_ | refine IntG.nu64 (by omega) ?_ | refine IntG.wr' rfl ?_ | refine Chk.mk (by omega) ?_ | (refine BrG.id ?_; first | with_reducible refine BrG.t ?_ | with_reducible refine BrG.f ?_ | with_reducible refine BrG.notG ?_ | with_reducible refine BrG.nn ?_ | with_reducible refine BrG.ns ?_ | refine BrG.pos (by omega) ?_ | refine BrG.neg (by omega) ?_ | with_reducible refine BrG.pos rfl ?_ | refine BrG.pos (by assumption) ?_ | refine BrG.neg (by assumption) ?_ | refine BrG.pos (by decide) ?_ | refine BrG.neg (by decide) ?_) | refine Chk.mk (ptr_ok tblOk rfl rfl) ?_ | refine Chk.mk (by decide) ?_ | refine hS.ld rfl ?_ | refine hS.ldn rfl ?_ | (refine hS.st rfl rfl ?_; intro _ hS))
  refine Cl.mono (rint_spec (s := s) (hS.part (L := [(rr, rdrC rb s.bad), (rb, rdC s.t)])) ht) ?_
  rintro _ w1 ⟨rfl, hS'⟩
  have hS := hS.call (L := [(rr, rdrC rb s.bad), (rb, rdC s.t)]) hS'
  unfold secF
  have hlen2 : (rbInt s).2.t.length ≤ s.t.length := hlen
  generalize rbInt s = x1 at hS hlen2 ⊢
  obtain ⟨z1, s1⟩ := x1
  simp only at hS hlen2 ⊢
  have hS : St w T ((rr, .cells ⟨[ptr rb, .bool s1.bad]⟩ T_manifest_reader (0, 0)) :: (rb, .cells ⟨[Str s1.t]⟩ T_pack_Reader (0, 0)) :: (b4, .cells ⟨[ptr rr]⟩ T_Ptr_manifest_reader (0, 0)) :: (b5, .cells ⟨[.slice a l.length c, .slice none 0 0, .int .i64 0, .int .i64 0, .int .i64 0]⟩ T_api_Edit (0, 0)) :: L) w1 := hS
  repeat (first | refine SemW.run tblOk ?_ | refine IntG.nw (by omega) ?_ | refine IntG.nu8 (by omega) ?_ | refine IntG.nu32 (by omega) ?_ | refine IntG.nu64 (by omega) ?_ | refine IntG.wr' rfl ?_ | refine Chk.mk (by omega) ?_ | (refine BrG.id ?_; first | with_reducible refine BrG.t ?_ | with_reducible refine BrG.f ?_ | with_reducible refine BrG.notG ?_ | with_reducible refine BrG.nn ?_ | with_reducible refine BrG.ns ?_ | refine BrG.pos (by omega) ?_ | refine BrG.neg (by omega) ?_ | with_reducible refine BrG.pos rfl ?_ | refine BrG.pos (by assumption) ?_ | refine BrG.neg (by assumption) ?_ | refine BrG.pos (by decide) ?_ | refine BrG.neg (by decide) ?_) | refine Chk.mk (ptr_ok tblOk rfl rfl) ?_ | refine Chk.mk (by decide) ?_ | refine hS.ld rfl ?_ | refine hS.ldn rfl ?_ | (refine hS.st rfl rfl ?_; intro _ hS))
  refine SemW.draw tblOk mixed (fun w' => St w T [(b4, .cells ⟨[ptr rr]⟩ T_Ptr_manifest_reader (0, 0)), (b5, .cells ⟨[.slice a l.length c, .slice none 0 0, .int .i64 0, .int .i64 0, .int .i64 0]⟩ T_api_Edit (0, 0))] w') [9] [0, 1, 2, 3, 4, 5, 6, 7, 8, 9] (by kernel_rfl) (hS.drew.sub (sub4 _ _ _ _ _)) ?_
  have hV := hS.drew
  have hS : St w T [(b4, .cells ⟨[ptr rr]⟩ T_Ptr_manifest_reader (0, 0)), (b5, .cells ⟨[.slice a l.length c, .slice none 0 0, .int .i64 0, .int .i64 0, .int .i64 0]⟩ T_api_Edit (0, 0))] _ := hV.sub (sub4 _ _ _ _ _)
  repeat (first | refine SemW.run tblOk ?_ | refine IntG.nw (by omega) ?_ | refine IntG.nu8 (by omega) ?_ | refine IntG.nu32 (by omega) ?_ | refine IntG.nu64 (by omega) ?_ | refine IntG.wr' rfl ?_ | refine Chk.mk (by omega) ?_ | (refine BrG.id ?_; first | with_reducible refine BrG.t ?_ | with_reducible refine BrG.f ?_ | with_reducible refine BrG.notG ?_ | with_reducible refine BrG.nn ?_ | with_reducible refine BrG.ns ?_ | refine BrG.pos (by omega) ?_ | refine BrG.neg (by omega) ?_ | with_reducible refine BrG.pos rfl ?_ | refine BrG.pos (by assumption) ?_ | refine BrG.neg (by assumption) ?_ | refine BrG.pos (by decide) ?_ | refine BrG.neg (by decide) ?_) | refine Chk.mk (ptr_ok tblOk rfl rfl) ?_ | refine Chk.mk (by decide) ?_ | refine hS.ldC rfl ?_ | refine hS.ldnC rfl ?_)
  refine Cl.mono (rint_spec (s := s1) (hV.part (L := [(rr, rdrC rb s1.bad), (rb, rdC s1.t)])) (by omega)) ?_
  rintro _ w2 ⟨rfl, hS'⟩
  have hV := hV.call (L := [(rr, rdrC rb s1.bad), (rb, rdC s1.t)]) hS'
  generalize rbInt s1 = x2 at hV ⊢
  obtain ⟨z2, s2⟩ := x2
  simp only at hV ⊢
  have hV : St w T ((rr, .cells ⟨[ptr rb, .bool s2.bad]⟩ T_manifest_reader (0, 0)) :: (rb, .cells ⟨[Str s2.t]⟩ T_pack_Reader (0, 0)) :: (b4, .cells ⟨[ptr rr]⟩ T_Ptr_manifest_reader (0, 0)) :: (b5, .cells ⟨[.slice a l.length c, .slice none 0 0, .int .i64 0, .int .i64 0, .int .i64 0]⟩ T_api_Edit (0, 0)) :: L) w2 := hV
  refine Chk.mk (hV.sub (sub4 _ _ _ _ _)) ?_
  repeat (first | refine SemW.run tblOk ?_ | refine IntG.nw (by omega) ?_ | refine IntG.nu8 (by omega) ?_ | refine IntG.nu32 (by omega) ?_ | refine IntG.nu64 (by omega) ?_ | refine IntG.wr' rfl ?_ | refine Chk.mk (by omega) ?_ | (refine BrG.id ?_; first | with_reducible refine BrG.t ?_ | with_reducible refine BrG.f ?_ | with_reducible refine BrG.notG ?_ | with_reducible refine BrG.nn ?_ | with_reducible refine BrG.ns ?_ | refine BrG.pos (by omega) ?_ | refine BrG.neg (by omega) ?_ | with_reducible refine BrG.pos rfl ?_ | refine BrG.pos (by assumption) ?_ | refine BrG.neg (by assumption) ?_ | refine BrG.pos (by decide) ?_ | refine BrG.neg (by decide) ?_) | refine Chk.mk (ptr_ok tblOk rfl rfl) ?_ | refine Chk.mk (by decide) ?_ | refine hS.ldC rfl ?_ | refine hS.ldnC rfl ?_)
  refine hV.al ?_
  intro r w3 _ hV
  refine Chk.mk ((St.tl1 hV).sub (sub4 _ _ _ _ _)) ?_
  repeat (first | refine SemW.run tblOk ?_ | refine IntG.nw (by omega) ?_ | refine IntG.nu8 (by omega) ?_ | refine IntG.nu32 (by omega) ?_ | refine IntG.nu64 (by omega) ?_ | refine IntG.wr' rfl ?_ | refine Chk.mk (by omega) ?_ | (refine BrG.id ?_; first | with_reducible refine BrG.t ?_ | with_reducible refine BrG.f ?_ | with_reducible refine BrG.notG ?_ | with_reducible refine BrG.nn ?_ | with_reducible refine BrG.ns ?_ | refine BrG.pos (by omega) ?_ | refine BrG.neg (by omega) ?_ | with_reducible refine BrG.pos rfl ?_ | refine BrG.pos (by assumption) ?_ | refine BrG.neg (by assumption) ?_ | refine BrG.pos (by decide) ?_ | refine BrG.neg (by decide) ?_) | refine Chk.mk (ptr_ok tblOk rfl rfl) ?_ | refine Chk.mk (by decide) ?_ | refine hS.ldC rfl ?_ | refine hS.ldnC rfl ?_)
  refine St.app (sz := 2) (m := 1) tblOk rfl rfl rfl rfl hV hv (news := fileC (z1, z2)) rfl (by have := hV.arr (b := r) (T' := []) (by simp); exact this) rfl (by show (_ + _) * 16 ≤ _; omega) (by omega) ?_
  intro a2 c2 L2 w4 hv hV
  have e9 : l.flatMap fileC ++ fileC (z1, z2) = (l ++ [(z1, z2)]).flatMap fileC := by simp
  have e8 : l.length + 1 = (l ++ [(z1, z2)]).length := by simp
  rw [e9, e8] at hv
  rw [e8]
  refine Chk.mk ((St.tl1 hV).sub (sub4 _ _ _ _ _)) ?_
  have hS := St.tl1 hV
  repeat (first | refine SemW.run tblOk ?_ | refine IntG.nw (by omega) ?_ | refine IntG.nu8 (by omega) ?_ | refine IntG.nu32 (by omega) ?_ | refine IntG.nu64 (by omega) ?_ | refine IntG.wr' rfl ?_ | refine Chk.mk (by omega) ?_ | (refine BrG.id ?_; first | with_reducible refine BrG.t ?_ | with_reducible refine BrG.f ?_ | with_reducible refine BrG.notG ?_ | with_reducible refine BrG.nn ?_ | with_reducible refine BrG.ns ?_ | refine BrG.pos (by omega) ?_ | refine BrG.neg (by omega) ?_ | with_reducible refine BrG.pos rfl ?_ | refine BrG.pos (by assumption) ?_ | refine BrG.neg (by assumption) ?_ | refine BrG.pos (by decide) ?_ | refine BrG.neg (by decide) ?_) | refine Chk.mk (ptr_ok tblOk rfl rfl) ?_ | refine Chk.mk (by decide) ?_ | refine hS.ld rfl ?_ | refine hS.ldn rfl ?_ | (refine hS.st rfl rfl ?_; intro _ hS))
  exact ⟨a2, c2, L2, hv, hS⟩
def bit (b : Bool) : Nat := if b = true then 1 else 0
theorem secF_len {s : RB} (h : s.bad = false) : (secF s).2.t.length + 1 ≤ s.t.length + bit (secF s).2.bad := by
  have h1 := intO_len s.t
  have h2 := intO_len (intO s.t).2.2
  unfold secF rbInt bit
  simp only [h, Bool.false_or]
  by_cases e1 : (intO s.t).2.1 = 0
  · have h3 := intO_len' e1
    split <;> omega
  · rw [decide_eq_true e1, Bool.true_or, if_pos rfl]; omega
structure EFI where
  i : Nat
  s : RB
  l : List FileM
  a : Option Addr
  c : Nat
def closF (b4 b5 : Nat) : Value := .func (.func f_manifest_Decode_1) ⟨[]⟩ ⟨[ptr b4, ptr b5]⟩
theorem rdF_step (n : Nat) (s : RB) (l : List FileM) (h : s.bad = false) : rdF (n + 1) (s, l) = rdF n ((secF s).2, l ++ [(secF s).1]) := by
  conv => lhs; unfold rdF
  rw [if_neg (by rw [h]; nofun)]; rfl
theorem rdF_stop (n : Nat) (s : RB) (l : List FileM) (h : s.bad = true) : rdF n (s, l) = (s, l) := by
  cases n with
  | zero => rfl
  | succ n => unfold rdF; rw [if_pos h]
set_option maxHeartbeats 4000000 in
theorem eachF_spec {w : World} {rr rb b4 b5 N : Nat} {s : RB} {a : Option Addr} {c : Nat} {l : List FileM} {L : Heap} (hv : Vec T_api_File 2 a l.length c (l.flatMap fileC) L) (hh : Holds ((rr, .cells ⟨[ptr rb, .bool s.bad]⟩ T_manifest_reader (0, 0)) :: (rb, .cells ⟨[Str s.t]⟩ T_pack_Reader (0, 0)) :: (b4, .cells ⟨[ptr rr]⟩ T_Ptr_manifest_reader (0, 0)) :: (b5, .cells ⟨[.slice a l.length c, .slice none 0 0, .int .i64 0, .int .i64 0, .int .i64 0]⟩ T_api_Edit (0, 0)) :: L) w) (hb : s.bad = false) (hN : l.length + s.t.length ≤ N) (hN2 : N ≤ 1099511627776) :
    Cl Tryd.prog f_manifest_reader_each [ptr rr, closF b4 b5] w fun _ w' => ∃ a' c' L', Vec T_api_File 2 a' (rdF (rbNum s).1 ((rbNum s).2, l)).2.length c' ((rdF (rbNum s).1 ((rbNum s).2, l)).2.flatMap fileC) L' ∧ St w (rr :: rb :: b4 :: b5 :: keys L) ((rr, .cells ⟨[ptr rb, .bool (rdF (rbNum s).1 ((rbNum s).2, l)).1.bad]⟩ T_manifest_reader (0, 0)) :: (rb, .cells ⟨[Str (rdF (rbNum s).1 ((rbNum s).2, l)).1.t]⟩ T_pack_Reader (0, 0)) :: (b4, .cells ⟨[ptr rr]⟩ T_Ptr_manifest_reader (0, 0)) :: (b5, .cells ⟨[.slice a' (rdF (rbNum s).1 ((rbNum s).2, l)).2.length c', .slice none 0 0, .int .i64 0, .int .i64 0, .int .i64 0]⟩ T_api_Edit (0, 0)) :: L') w' := by
  have hS : St w (rr :: rb :: b4 :: b5 :: keys L) ((rr, .cells ⟨[ptr rb, .bool s.bad]⟩ T_manifest_reader (0, 0)) :: (rb, .cells ⟨[Str s.t]⟩ T_pack_Reader (0, 0)) :: (b4, .cells ⟨[ptr rr]⟩ T_Ptr_manifest_reader (0, 0)) :: (b5, .cells ⟨[.slice a l.length c, .slice none 0 0, .int .i64 0, .int .i64 0, .int .i64 0]⟩ T_api_Edit (0, 0)) :: L) w := St.enter hh
  have hnl := numO_len s.t
  have hlt := numO_lt s.t
  have hne := numO_err s.t
  generalize (rr :: rb :: b4 :: b5 :: keys L) = T at hS ⊢
  unfold closF
  refine en_manifest_reader_each rfl ?_
  repeat (first | refine SemW.run tblOk ?_ | refine IntG.nw (by omega) ?_ | refine IntG.nu8 (by omega) ?_ | refine IntG.nu32 (by omega) ?_ | refine IntG.nu64 (by omega) ?_ | refine IntG.wr' rfl ?_ | refine Chk.mk (by omega) ?_ | (refine BrG.id ?_; first | with_reducible refine BrG.t ?_ | with_reducible refine BrG.f ?_ | with_reducible refine BrG.notG ?_ | with_reducible refine BrG.nn ?_ | with_reducible refine BrG.ns ?_ | refine BrG.pos (by omega) ?_ | refine BrG.neg (by omega) ?_ | with_reducible refine BrG.pos rfl ?_ | refine BrG.pos (by assumption) ?_ | refine BrG.neg (by assumption) ?_ | refine BrG.pos (by decide) ?_ | refine BrG.neg (by decide) ?_) | refine Chk.mk (ptr_ok tblOk rfl rfl) ?_ | refine Chk.mk (by decide) ?_ | refine hS.ld rfl ?_ | refine hS.ldn rfl ?_ | (refine hS.st rfl rfl ?_; intro _ hS))
  refine Cl.mono (RNum_spec (hS.part (L := [(rb, rdC s.t)])) (by omega)) ?_
  rintro _ w1 ⟨rfl, hS'⟩
  have hS := hS.call (L := [(rb, rdC s.t)]) hS'
  obtain ⟨t, bad⟩ := s
  simp only at hb hS hnl hlt hne hN ⊢
  subst hb
  have hrn : rbNum ⟨t, false⟩ = ((numO t).1, ⟨(numO t).2.2, decide ((numO t).2.1 ≠ 0)⟩) := rfl
  rw [hrn]
  simp only
  generalize numO t = x1 at hS hnl hlt hne ⊢
  obtain ⟨n, er, t1⟩ := x1
  simp only at hS hnl hlt hne ⊢
  have hS : St w T ((rr, .cells ⟨[ptr rb, .bool false]⟩ T_manifest_reader (0, 0)) :: (rb, .cells ⟨[Str t1]⟩ T_pack_Reader (0, 0)) :: (b4, .cells ⟨[ptr rr]⟩ T_Ptr_manifest_reader (0, 0)) :: (b5, .cells ⟨[.slice a l.length c, .slice none 0 0, .int .i64 0, .int .i64 0, .int .i64 0]⟩ T_api_Edit (0, 0)) :: L) w1 := hS
  have hbd : (!decide (er = 0)) = decide (er ≠ 0) := by simp
  generalize hX : rdF n (⟨t1, decide (er ≠ 0)⟩, l) = X
  have hj : (0 ≤ n ∧ rdF (n - 0) (⟨t1, decide (er ≠ 0)⟩, l) = X ∧ l.length + t1.length ≤ N + bit (decide (er ≠ 0))) := ⟨Nat.zero_le _, hX, by unfold bit; split <;> omega⟩
  repeat (first | refine SemW.run tblOk ?_ | refine IntG.nw (by omega) ?_ | refine IntG.nu8 (by omega) ?_ | refine IntG.nu32 (by omega) ?_ | refine IntG.nu64 (by omega) ?_ | refine IntG.wr' rfl ?_ | refine Chk.mk (by omega) ?_ | (refine BrG.id ?_; first | with_reducible refine BrG.t ?_ | with_reducible refine BrG.f ?_ | with_reducible refine BrG.notG ?_ | with_reducible refine BrG.nn ?_ | with_reducible refine BrG.ns ?_ | refine BrG.pos (by omega) ?_ | refine BrG.neg (by omega) ?_ | with_reducible refine BrG.pos rfl ?_ | refine BrG.pos (by assumption) ?_ | refine BrG.neg (by assumption) ?_ | refine BrG.pos (by decide) ?_ | refine BrG.neg (by decide) ?_) | refine Chk.mk (ptr_ok tblOk rfl rfl) ?_ | refine Chk.mk (by decide) ?_ | refine hS.ld rfl ?_ | refine hS.ldn rfl ?_ | (refine hS.st rfl rfl ?_; intro _ hS))
  refine SemW.loop (fun z : EFI => [(0, ptr rr), (1, .func (.func f_manifest_Decode_1) ⟨[]⟩ ⟨[ptr b4, ptr b5]⟩), (4, .int .u64 n), (6, .int .u64 z.i)])
    (fun z w' => (z.i ≤ n ∧ rdF (n - z.i) (z.s, z.l) = X ∧ z.l.length + z.s.t.length ≤ N + bit z.s.bad) ∧ ∃ L, Vec T_api_File 2 z.a z.l.length z.c (z.l.flatMap fileC) L ∧ St w T ((rr, .cells ⟨[ptr rb, .bool z.s.bad]⟩ T_manifest_reader (0, 0)) :: (rb, .cells ⟨[Str z.s.t]⟩ T_pack_Reader (0, 0)) :: (b4, .cells ⟨[ptr rr]⟩ T_Ptr_manifest_reader (0, 0)) :: (b5, .cells ⟨[.slice z.a z.l.length z.c, .slice none 0 0, .int .i64 0, .int .i64 0, .int .i64 0]⟩ T_api_Edit (0, 0)) :: L) w') (fun z => n - z.i) ⟨0, ⟨t1, decide (er ≠ 0)⟩, l, a, c⟩
    ⟨rfl, rfl, rfl, rfl, trivial⟩ ⟨hj, L, hv, by rw [hbd] at hS; exact hS⟩ ?_
  clear hS hj hX hbd hv hS' hrn
  rintro ⟨i, s, l, a, c⟩ w2 ⟨⟨hi, hx, hsz⟩, L, hv, hS⟩
  simp only at hi hx hsz hv hS ⊢
  by_cases hin : i < n
  · cases hb : s.bad with
    | true =>
      rw [rdF_stop _ _ _ hb] at hx
      subst hx
      rw [hb] at hS
      repeat (first | refine SemW.run tblOk ?_ | refine IntG.nw (by omega) ?_ | refine IntG.nu8 (by omega) ?_ | refine IntG.nu32 (by omega) ?_ | refine IntG.nu64 (by omega) ?_ | refine IntG.wr' rfl ?_ | refine Chk.mk (by omega) ?_ | (refine BrG.id ?_; first | with_reducible refine BrG.t ?_ | with_reducible refine BrG.f ?_ | with_reducible refine BrG.notG ?_ | with_reducible refine BrG.nn ?_ | with_reducible refine BrG.ns ?_ | refine BrG.pos (by omega) ?_ | refine BrG.neg (by omega) ?_ | with_reducible refine BrG.pos rfl ?_ | refine BrG.pos (by assumption) ?_ | refine BrG.neg (by assumption) ?_ | refine BrG.pos (by decide) ?_ | refine BrG.neg (by decide) ?_) | refine Chk.mk (ptr_ok tblOk rfl rfl) ?_ | refine Chk.mk (by decide) ?_ | refine hS.ld rfl ?_ | refine hS.ldn rfl ?_ | (refine hS.st rfl rfl ?_; intro _ hS))
      rw [← hb] at hS
      exact ⟨a, c, L, hv, hS⟩
    | false =>
      have hsl := secF_len hb
      rw [show n - i = (n - (i + 1)) + 1 by omega, rdF_step _ _ _ hb] at hx
      have hb0 : bit s.bad = 0 := by rw [hb]; rfl
      have hSb := hS
      rw [hb] at hS
      repeat (first | refine SemW.run tblOk ?_ | refine IntG.nw (by omega) ?_ | refine IntG.nu8 (by omega) ?_ | refine IntG.nu32 (by omega) ?_ | refine IntG.nu64 (by omega) ?_ | refine IntG.wr' rfl ?_ | refine Chk.mk (by omega) ?_ | (refine BrG.id ?_; first | with_reducible refine BrG.t ?_ | with_reducible refine BrG.f ?_ | with_reducible refine BrG.notG ?_ | with_reducible refine BrG.nn ?_ | with_reducible refine BrG.ns ?_ | refine BrG.pos (by omega) ?_ | refine BrG.neg (by omega) ?_ | with_reducible refine BrG.pos rfl ?_ | refine BrG.pos (by assumption) ?_ | refine BrG.neg (by assumption) ?_ | refine BrG.pos (by decide) ?_ | refine BrG.neg (by decide) ?_) | refine Chk.mk (ptr_ok tblOk rfl rfl) ?_ | refine Chk.mk (by decide) ?_ | refine hS.ld rfl ?_ | refine hS.ldn rfl ?_ | (refine hS.st rfl rfl ?_; intro _ hS))
      refine Cl.mono (rdFile_spec (s := s) hv hSb.holds (by omega) (by omega)) ?_
      rintro _ w3 ⟨a', c', L', hv', hS'⟩
      have hS := St.callAll hSb hS'
      repeat (first | refine SemW.run tblOk ?_ | refine IntG.nw (by omega) ?_ | refine IntG.nu8 (by omega) ?_ | refine IntG.nu32 (by omega) ?_ | refine IntG.nu64 (by omega) ?_ | refine IntG.wr' rfl ?_ | refine Chk.mk (by omega) ?_ | (refine BrG.id ?_; first | with_reducible refine BrG.t ?_ | with_reducible refine BrG.f ?_ | with_reducible refine BrG.notG ?_ | with_reducible refine BrG.nn ?_ | with_reducible refine BrG.ns ?_ | refine BrG.pos (by omega) ?_ | refine BrG.neg (by omega) ?_ | with_reducible refine BrG.pos rfl ?_ | refine BrG.pos (by assumption) ?_ | refine BrG.neg (by assumption) ?_ | refine BrG.pos (by decide) ?_ | refine BrG.neg (by decide) ?_) | refine Chk.mk (ptr_ok tblOk rfl rfl) ?_ | refine Chk.mk (by decide) ?_ | refine hS.ld rfl ?_ | refine hS.ldn rfl ?_ | (refine hS.st rfl rfl ?_; intro _ hS))
      exact ⟨⟨i + 1, (secF s).2, l ++ [(secF s).1], a', c'⟩, ⟨rfl, rfl, rfl, rfl, trivial⟩, ⟨⟨by simp only; omega, hx, by simp only [List.length_append, List.length_singleton]; omega⟩, L', hv', hS⟩, by simp only; omega⟩
  · have hie : n - i = 0 := by omega
    rw [hie] at hx
    have hx : (s, l) = X := hx
    subst hx
    repeat (first | refine SemW.run tblOk ?_ | refine IntG.nw (by omega) ?_ | refine IntG.nu8 (by omega) ?_ | refine IntG.nu32 (by omega) ?_ | refine IntG.nu64 (by omega) ?_ | refine IntG.wr' rfl ?_ | refine Chk.mk (by omega) ?_ | (refine BrG.id ?_; first | with_reducible refine BrG.t ?_ | with_reducible refine BrG.f ?_ | with_reducible refine BrG.notG ?_ | with_reducible refine BrG.nn ?_ | with_reducible refine BrG.ns ?_ | refine BrG.pos (by omega) ?_ | refine BrG.neg (by omega) ?_ | with_reducible refine BrG.pos rfl ?_ | refine BrG.pos (by assumption) ?_ | refine BrG.neg (by assumption) ?_ | refine BrG.pos (by decide) ?_ | refine BrG.neg (by decide) ?_) | refine Chk.mk (ptr_ok tblOk rfl rfl) ?_ | refine Chk.mk (by decide) ?_ | refine hS.ld rfl ?_ | refine hS.ldn rfl ?_ | (refine hS.st rfl rfl ?_; intro _ hS))
    exact ⟨a, c, L, hv, hS⟩
set_option maxHeartbeats 4000000 in
theorem rdOne_spec {w : World} {rr rb b4 b5 : Nat} {s : RB} {fa a : Option Addr} {fn fc c : Nat} {l : List Int} {L : Heap} (hv : Vec T_int 1 a l.length c (l.map intV) L) (hh : Holds ((rr, .cells ⟨[ptr rb, .bool s.bad]⟩ T_manifest_reader (0, 0)) :: (rb, .cells ⟨[Str s.t]⟩ T_pack_Reader (0, 0)) :: (b4, .cells ⟨[ptr rr]⟩ T_Ptr_manifest_reader (0, 0)) :: (b5, .cells ⟨[.slice fa fn fc, .slice a l.length c, .int .i64 0, .int .i64 0, .int .i64 0]⟩ T_api_Edit (0, 0)) :: L) w) (ht : s.t.length ≤ 70368744177664) (hl : l.length ≤ 4398046511104) :
    Cl Tryd.prog f_manifest_Decode_2 [ptr b5, ptr b4] w fun _ w' => ∃ a' c' L', Vec T_int 1 a' (l ++ [(rbInt s).1]).length c' ((l ++ [(rbInt s).1]).map intV) L' ∧ St w (rr :: rb :: b4 :: b5 :: keys L) ((rr, .cells ⟨[ptr rb, .bool (rbInt s).2.bad]⟩ T_manifest_reader (0, 0)) :: (rb, .cells ⟨[Str (rbInt s).2.t]⟩ T_pack_Reader (0, 0)) :: (b4, .cells ⟨[ptr rr]⟩ T_Ptr_manifest_reader (0, 0)) :: (b5, .cells ⟨[.slice fa fn fc, .slice a' (l ++ [(rbInt s).1]).length c', .int .i64 0, .int .i64 0, .int .i64 0]⟩ T_api_Edit (0, 0)) :: L') w' := by
  have hS : St w (rr :: rb :: b4 :: b5 :: keys L) ((rr, .cells ⟨[ptr rb, .bool s.bad]⟩ T_manifest_reader (0, 0)) :: (rb, .cells ⟨[Str s.t]⟩ T_pack_Reader (0, 0)) :: (b4, .cells ⟨[ptr rr]⟩ T_Ptr_manifest_reader (0, 0)) :: (b5, .cells ⟨[.slice fa fn fc, .slice a l.length c, .int .i64 0, .int .i64 0, .int .i64 0]⟩ T_api_Edit (0, 0)) :: L) w := St.enter hh
  generalize (rr :: rb :: b4 :: b5 :: keys L) = T at hS ⊢
  refine en_manifest_Decode_2 rfl ?_
  repeat (first | refine SemW.run tblOk ?_ | refine IntG.nw (by omega) ?_ | refine IntG.nu8 (by omega) ?_ | refine IntG.nu32 (by omega) ?_ | refine IntG.nu64 (by omega) ?_ | refine IntG.wr' rfl ?_ | refine Chk.mk (by omega) ?_ | (refine BrG.id ?_; first | with_reducible refine BrG.t ?_ | with_reducible refine BrG.f ?_ | with_reducible refine BrG.notG ?_ | with_reducible refine BrG.nn ?_ | with_reducible refine BrG.ns ?_ | refine BrG.pos (by omega) ?_ | refine BrG.neg (by omega) ?_ | with_reducible refine BrG.pos rfl ?_ | refine BrG.pos (by assumption) ?_ | refine BrG.neg (by assumption) ?_ | refine BrG.pos (by decide) ?_ | refine BrG.neg (by decide) ?_) | refine Chk.mk (ptr_ok tblOk rfl rfl) ?_ | refine Chk.mk (by decide) ?_)
  refine SemW.draw tblOk mixed (fun w' => St w T [(b4, .cells ⟨[ptr rr]⟩ T_Ptr_manifest_reader (0, 0)), (b5, .cells ⟨[.slice fa fn fc, .slice a l.length c, .int .i64 0, .int .i64 0, .int .i64 0]⟩ T_api_Edit (0, 0))] w') [7] [0, 1, 2, 3, 4, 5, 6, 7] (by kernel_rfl) (hS.drew.sub (sub4 _ _ _ _ _)) ?_
  have hV := hS.drew
  have hS : St w T [(b4, .cells ⟨[ptr rr]⟩ T_Ptr_manifest_reader (0, 0)), (b5, .cells ⟨[.slice fa fn fc, .slice a l.length c, .int .i64 0, .int .i64 0, .int .i64 0]⟩ T_api_Edit (0, 0))] _ := hV.sub (sub4 _ _ _ _ _)
  repeat (first | refine SemW.run tblOk ?_ | refine IntG.nw (by omega) ?_ | refine IntG.nu8 (by omega) ?_ | refine IntG.nu32 (by omega) ?_ | refine IntG.nu64 (by omega) ?_ | refine IntG.wr' rfl ?_ | refine Chk.mk (by omega) ?_ | (refine BrG.id ?_; first | with_reducible refine BrG.t ?_ | with_reducible refine BrG.f ?_ | with_reducible refine BrG.notG ?_ | with_reducible refine BrG.nn ?_ | with_reducible refine BrG.ns ?_ | refine BrG.pos (by omega) ?_ | refine BrG.neg (by omega) ?_ | with_reducible refine BrG.pos rfl ?_ | refine BrG.pos (by assumption) ?_ | refine BrG.neg (by assumption) ?_ | refine BrG.pos (by decide) ?_ | refine BrG.neg (by decide) ?_) | refine Chk.mk (ptr_ok tblOk rfl rfl) ?_ | refine Chk.mk (by decide) ?_ | refine hS.ldC rfl ?_ | refine hS.ldnC rfl ?_)
  refine Cl.mono (rint_spec (s := s) (hV.part (L := [(rr, rdrC rb s.bad), (rb, rdC s.t)])) ht) ?_
  rintro _ w2 ⟨rfl, hS'⟩
  have hV := hV.call (L := [(rr, rdrC rb s.bad), (rb, rdC s.t)]) hS'
  generalize rbInt s = x2 at hV ⊢
  obtain ⟨z2, s2⟩ := x2
  simp only at hV ⊢
  have hV : St w T ((rr, .cells ⟨[ptr rb, .bool s2.bad]⟩ T_manifest_reader (0, 0)) :: (rb, .cells ⟨[Str s2.t]⟩ T_pack_Reader (0, 0)) :: (b4, .cells ⟨[ptr rr]⟩ T_Ptr_manifest_reader (0, 0)) :: (b5, .cells ⟨[.slice fa fn fc, .slice a l.length c, .int .i64 0, .int .i64 0, .int .i64 0]⟩ T_api_Edit (0, 0)) :: L) w2 := hV
  refine Chk.mk (hV.sub (sub4 _ _ _ _ _)) ?_
  repeat (first | refine SemW.run tblOk ?_ | refine IntG.nw (by omega) ?_ | refine IntG.nu8 (by omega) ?_ | refine IntG.nu32 (by omega) ?_ | refine IntG.nu64 (by omega) ?_ | refine IntG.wr' rfl ?_ | refine Chk.mk (by omega) ?_ | (refine BrG.id ?_; first | with_reducible refine BrG.t ?_ | with_reducible refine BrG.f ?_ | with_reducible refine BrG.notG ?_ | with_reducible refine BrG.nn ?_ | with_reducible refine BrG.ns ?_ | refine BrG.pos (by omega) ?_ | refine BrG.neg (by omega) ?_ | with_reducible refine BrG.pos rfl ?_ | refine BrG.pos (by assumption) ?_ | refine BrG.neg (by assumption) ?_ | refine BrG.pos (by decide) ?_ | refine BrG.neg (by decide) ?_) | refine Chk.mk (ptr_ok tblOk rfl rfl) ?_ | refine Chk.mk (by decide) ?_ | refine hS.ldC rfl ?_ | refine hS.ldnC rfl ?_)
  refine hV.al ?_
  intro r w3 _ hV
  refine Chk.mk ((St.tl1 hV).sub (sub4 _ _ _ _ _)) ?_
  repeat (first | refine SemW.run tblOk ?_ | refine IntG.nw (by omega) ?_ | refine IntG.nu8 (by omega) ?_ | refine IntG.nu32 (by omega) ?_ | refine IntG.nu64 (by omega) ?_ | refine IntG.wr' rfl ?_ | refine Chk.mk (by omega) ?_ | (refine BrG.id ?_; first | with_reducible refine BrG.t ?_ | with_reducible refine BrG.f ?_ | with_reducible refine BrG.notG ?_ | with_reducible refine BrG.nn ?_ | with_reducible refine BrG.ns ?_ | refine BrG.pos (by omega) ?_ | refine BrG.neg (by omega) ?_ | with_reducible refine BrG.pos rfl ?_ | refine BrG.pos (by assumption) ?_ | refine BrG.neg (by assumption) ?_ | refine BrG.pos (by decide) ?_ | refine BrG.neg (by decide) ?_) | refine Chk.mk (ptr_ok tblOk rfl rfl) ?_ | refine Chk.mk (by decide) ?_ | refine hS.ldC rfl ?_ | refine hS.ldnC rfl ?_)
  refine St.app (sz := 1) (m := 1) tblOk rfl rfl rfl rfl hV hv (news := [intV z2]) rfl (by have := hV.arr (b := r) (T' := []) (by simp); exact this) rfl (by show (_ + _) * 8 ≤ _; omega) (by omega) ?_
  intro a2 c2 L2 w4 hv hV
  have e9 : l.map intV ++ [intV z2] = (l ++ [z2]).map intV := by simp
  have e8 : l.length + 1 = (l ++ [z2]).length := by simp
  rw [e9, e8] at hv
  rw [e8]
  refine Chk.mk ((St.tl1 hV).sub (sub4 _ _ _ _ _)) ?_
  have hS := St.tl1 hV
  repeat (first | refine SemW.run tblOk ?_ | refine IntG.nw (by omega) ?_ | refine IntG.nu8 (by omega) ?_ | refine IntG.nu32 (by omega) ?_ | refine IntG.nu64 (by omega) ?_ | refine IntG.wr' rfl ?_ | refine Chk.mk (by omega) ?_ | (refine BrG.id ?_; first | with_reducible refine BrG.t ?_ | with_reducible refine BrG.f ?_ | with_reducible refine BrG.notG ?_ | with_reducible refine BrG.nn ?_ | with_reducible refine BrG.ns ?_ | refine BrG.pos (by omega) ?_ | refine BrG.neg (by omega) ?_ | with_reducible refine BrG.pos rfl ?_ | refine BrG.pos (by assumption) ?_ | refine BrG.neg (by assumption) ?_ | refine BrG.pos (by decide) ?_ | refine BrG.neg (by decide) ?_) | refine Chk.mk (ptr_ok tblOk rfl rfl) ?_ | refine Chk.mk (by decide) ?_ | refine hS.ld rfl ?_ | refine hS.ldn rfl ?_ | (refine hS.st rfl rfl ?_; intro _ hS))
  exact ⟨a2, c2, L2, hv, hS⟩
theorem rbInt_len {s : RB} (h : s.bad = false) : (rbInt s).2.t.length + 1 ≤ s.t.length + bit (rbInt s).2.bad := by
  have h1 := intO_len s.t
  unfold rbInt bit
  simp only [h, Bool.false_or]
  by_cases e1 : (intO s.t).2.1 = 0
  · have h3 := intO_len' e1
    split <;> omega
  · rw [decide_eq_true e1, if_pos rfl]; omega
structure EII where
  i : Nat
  s : RB
  l : List Int
  a : Option Addr
  c : Nat
def closI (b4 b5 : Nat) : Value := .func (.func f_manifest_Decode_2) ⟨[]⟩ ⟨[ptr b5, ptr b4]⟩
theorem rdI_step (n : Nat) (s : RB) (l : List Int) (h : s.bad = false) : rdI (n + 1) (s, l) = rdI n ((rbInt s).2, l ++ [(rbInt s).1]) := by
  conv => lhs; unfold rdI
  rw [if_neg (by rw [h]; nofun)]
theorem rdI_stop (n : Nat) (s : RB) (l : List Int) (h : s.bad = true) : rdI n (s, l) = (s, l) := by
  cases n with
  | zero => rfl
  | succ n => unfold rdI; rw [if_pos h]
set_option maxHeartbeats 4000000 in
theorem eachI_spec {w : World} {rr rb b4 b5 N : Nat} {s : RB} {fa a : Option Addr} {fn fc c : Nat} {l : List Int} {L : Heap} (hv : Vec T_int 1 a l.length c (l.map intV) L) (hh : Holds ((rr, .cells ⟨[ptr rb, .bool s.bad]⟩ T_manifest_reader (0, 0)) :: (rb, .cells ⟨[Str s.t]⟩ T_pack_Reader (0, 0)) :: (b4, .cells ⟨[ptr rr]⟩ T_Ptr_manifest_reader (0, 0)) :: (b5, .cells ⟨[.slice fa fn fc, .slice a l.length c, .int .i64 0, .int .i64 0, .int .i64 0]⟩ T_api_Edit (0, 0)) :: L) w) (hN : l.length + s.t.length ≤ N) (hN2 : N ≤ 1099511627776) :
    Cl Tryd.prog f_manifest_reader_each [ptr rr, closI b4 b5] w fun _ w' => ∃ a' c' L', Vec T_int 1 a' (rdI (rbNum s).1 ((rbNum s).2, l)).2.length c' ((rdI (rbNum s).1 ((rbNum s).2, l)).2.map intV) L' ∧ St w (rr :: rb :: b4 :: b5 :: keys L) ((rr, .cells ⟨[ptr rb, .bool (rdI (rbNum s).1 ((rbNum s).2, l)).1.bad]⟩ T_manifest_reader (0, 0)) :: (rb, .cells ⟨[Str (rdI (rbNum s).1 ((rbNum s).2, l)).1.t]⟩ T_pack_Reader (0, 0)) :: (b4, .cells ⟨[ptr rr]⟩ T_Ptr_manifest_reader (0, 0)) :: (b5, .cells ⟨[.slice fa fn fc, .slice a' (rdI (rbNum s).1 ((rbNum s).2, l)).2.length c', .int .i64 0, .int .i64 0, .int .i64 0]⟩ T_api_Edit (0, 0)) :: L') w' := by
  have hS : St w (rr :: rb :: b4 :: b5 :: keys L) ((rr, .cells ⟨[ptr rb, .bool s.bad]⟩ T_manifest_reader (0, 0)) :: (rb, .cells ⟨[Str s.t]⟩ T_pack_Reader (0, 0)) :: (b4, .cells ⟨[ptr rr]⟩ T_Ptr_manifest_reader (0, 0)) :: (b5, .cells ⟨[.slice fa fn fc, .slice a l.length c, .int .i64 0, .int .i64 0, .int .i64 0]⟩ T_api_Edit (0, 0)) :: L) w := St.enter hh
  have hnl := numO_len s.t
  have hlt := numO_lt s.t
  generalize (rr :: rb :: b4 :: b5 :: keys L) = T at hS ⊢
  unfold closI
  refine en_manifest_reader_each rfl ?_
  repeat (first | refine SemW.run tblOk ?_ | refine IntG.nw (by omega) ?_ | refine IntG.nu8 (by omega) ?_ | refine IntG.nu32 (by omega) ?_ | refine IntG.nu64 (by omega) ?_ | refine IntG.wr' rfl ?_ | refine Chk.mk (by omega) ?_ | (refine BrG.id ?_; first | with_reducible refine BrG.t ?_ | with_reducible refine BrG.f ?_ | with_reducible refine BrG.notG ?_ | with_reducible refine BrG.nn ?_ | with_reducible refine BrG.ns ?_ | refine BrG.pos (by omega) ?_ | refine BrG.neg (by omega) ?_ | with_reducible refine BrG.pos rfl ?_ | refine BrG.pos (by assumption) ?_ | refine BrG.neg (by assumption) ?_ | refine BrG.pos (by decide) ?_ | refine BrG.neg (by decide) ?_) | refine Chk.mk (ptr_ok tblOk rfl rfl) ?_ | refine Chk.mk (by decide) ?_ | refine hS.ld rfl ?_ | refine hS.ldn rfl ?_ | (refine hS.st rfl rfl ?_; intro _ hS))
  refine Cl.mono (RNum_spec (hS.part (L := [(rb, rdC s.t)])) (by omega)) ?_
  rintro _ w1 ⟨rfl, hS'⟩
  have hS := hS.call (L := [(rb, rdC s.t)]) hS'
  obtain ⟨t, bad⟩ := s
  simp only at hS hnl hlt hN ⊢
  have hrn : rbNum ⟨t, bad⟩ = ((numO t).1, ⟨(numO t).2.2, bad || decide ((numO t).2.1 ≠ 0)⟩) := rfl
  rw [hrn]
  simp only
  generalize numO t = x1 at hS hnl hlt ⊢
  obtain ⟨n, er, t1⟩ := x1
  simp only at hS hnl hlt ⊢
  have hS : St w T ((rr, .cells ⟨[ptr rb, .bool bad]⟩ T_manifest_reader (0, 0)) :: (rb, .cells ⟨[Str t1]⟩ T_pack_Reader (0, 0)) :: (b4, .cells ⟨[ptr rr]⟩ T_Ptr_manifest_reader (0, 0)) :: (b5, .cells ⟨[.slice fa fn fc, .slice a l.length c, .int .i64 0, .int .i64 0, .int .i64 0]⟩ T_api_Edit (0, 0)) :: L) w1 := hS
  generalize hbd : (bad || decide (er ≠ 0)) = bd
  generalize hX : rdI n (⟨t1, bd⟩, l) = X
  have hj : (0 ≤ n ∧ rdI (n - 0) (⟨t1, bd⟩, l) = X ∧ l.length + t1.length ≤ N + bit bd) := ⟨Nat.zero_le _, hX, by unfold bit; split <;> omega⟩
  have hbd2 : bad = false → (!decide (er = 0)) = bd := by rintro rfl; rw [← hbd]; simp
  cases bad with
  | true =>
    have hbt : bd = true := by rw [← hbd]; rfl
    subst hbt
    repeat (first | refine SemW.run tblOk ?_ | refine IntG.nw (by omega) ?_ | refine IntG.nu8 (by omega) ?_ | refine IntG.nu32 (by omega) ?_ | refine IntG.nu64 (by omega) ?_ | refine IntG.wr' rfl ?_ | refine Chk.mk (by omega) ?_ | (refine BrG.id ?_; first | with_reducible refine BrG.t ?_ | with_reducible refine BrG.f ?_ | with_reducible refine BrG.notG ?_ | with_reducible refine BrG.nn ?_ | with_reducible refine BrG.ns ?_ | refine BrG.pos (by omega) ?_ | refine BrG.neg (by omega) ?_ | with_reducible refine BrG.pos rfl ?_ | refine BrG.pos (by assumption) ?_ | refine BrG.neg (by assumption) ?_ | refine BrG.pos (by decide) ?_ | refine BrG.neg (by decide) ?_) | refine Chk.mk (ptr_ok tblOk rfl rfl) ?_ | refine Chk.mk (by decide) ?_ | refine hS.ld rfl ?_ | refine hS.ldn rfl ?_ | (refine hS.st rfl rfl ?_; intro _ hS))
    refine SemW.loop (fun z : EII => [(0, ptr rr), (1, .func (.func f_manifest_Decode_2) ⟨[]⟩ ⟨[ptr b5, ptr b4]⟩), (4, .int .u64 n), (6, .int .u64 z.i)])
      (fun z w' => (z.i ≤ n ∧ rdI (n - z.i) (z.s, z.l) = X ∧ z.l.length + z.s.t.length ≤ N + bit z.s.bad) ∧ ∃ L, Vec T_int 1 z.a z.l.length z.c (z.l.map intV) L ∧ St w T ((rr, .cells ⟨[ptr rb, .bool z.s.bad]⟩ T_manifest_reader (0, 0)) :: (rb, .cells ⟨[Str z.s.t]⟩ T_pack_Reader (0, 0)) :: (b4, .cells ⟨[ptr rr]⟩ T_Ptr_manifest_reader (0, 0)) :: (b5, .cells ⟨[.slice fa fn fc, .slice z.a z.l.length z.c, .int .i64 0, .int .i64 0, .int .i64 0]⟩ T_api_Edit (0, 0)) :: L) w') (fun z => n - z.i) ⟨0, ⟨t1, _⟩, l, a, c⟩
      ⟨rfl, rfl, rfl, rfl, trivial⟩ ⟨hj, L, hv, hS⟩ ?_
    clear hS hj hX hv hS' hrn hbd hbd2
    rintro ⟨i, s, l, a, c⟩ w2 ⟨⟨hi, hx, hsz⟩, L, hv, hS⟩
    simp only at hi hx hsz hv hS ⊢
    by_cases hin : i < n
    · cases hb : s.bad with
      | true =>
        rw [rdI_stop _ _ _ hb] at hx
        subst hx
        rw [hb] at hS
        repeat (first | refine SemW.run tblOk ?_ | refine IntG.nw (by omega) ?_ | refine IntG.nu8 (by omega) ?_ | refine IntG.nu32 (by omega) ?_ | refine IntG.nu64 (by omega) ?_ | refine IntG.wr' rfl ?_ | refine Chk.mk (by omega) ?_ | (refine BrG.id ?_; first | with_reducible refine BrG.t ?_ | with_reducible refine BrG.f ?_ | with_reducible refine BrG.notG ?_ | with_reducible refine BrG.nn ?_ | with_reducible refine BrG.ns ?_ | refine BrG.pos (by omega) ?_ | refine BrG.neg (by omega) ?_ | with_reducible refine BrG.pos rfl ?_ | refine BrG.pos (by assumption) ?_ | refine BrG.neg (by assumption) ?_ | refine BrG.pos (by decide) ?_ | refine BrG.neg (by decide) ?_) | refine Chk.mk (ptr_ok tblOk rfl rfl) ?_ | refine Chk.mk (by decide) ?_ | refine hS.ld rfl ?_ | refine hS.ldn rfl ?_ | (refine hS.st rfl rfl ?_; intro _ hS))
        rw [← hb] at hS
        exact ⟨a, c, L, hv, hS⟩
      | false =>
        have hsl := rbInt_len hb
        rw [show n - i = (n - (i + 1)) + 1 by omega, rdI_step _ _ _ hb] at hx
        have hb0 : bit s.bad = 0 := by rw [hb]; rfl
        have hSb := hS
        rw [hb] at hS
        repeat (first | refine SemW.run tblOk ?_ | refine IntG.nw (by omega) ?_ | refine IntG.nu8 (by omega) ?_ | refine IntG.nu32 (by omega) ?_ | refine IntG.nu64 (by omega) ?_ | refine IntG.wr' rfl ?_ | refine Chk.mk (by omega) ?_ | (refine BrG.id ?_; first | with_reducible refine BrG.t ?_ | with_reducible refine BrG.f ?_ | with_reducible refine BrG.notG ?_ | with_reducible refine BrG.nn ?_ | with_reducible refine BrG.ns ?_ | refine BrG.pos (by omega) ?_ | refine BrG.neg (by omega) ?_ | with_reducible refine BrG.pos rfl ?_ | refine BrG.pos (by assumption) ?_ | refine BrG.neg (by assumption) ?_ | refine BrG.pos (by decide) ?_ | refine BrG.neg (by decide) ?_) | refine Chk.mk (ptr_ok tblOk rfl rfl) ?_ | refine Chk.mk (by decide) ?_ | refine hS.ld rfl ?_ | refine hS.ldn rfl ?_ | (refine hS.st rfl rfl ?_; intro _ hS))
        refine Cl.mono (rdOne_spec (s := s) hv hSb.holds (by omega) (by omega)) ?_
        rintro _ w3 ⟨a', c', L', hv', hS'⟩
        have hS := St.callAll hSb hS'
        repeat (first | refine SemW.run tblOk ?_ | refine IntG.nw (by omega) ?_ | refine IntG.nu8 (by omega) ?_ | refine IntG.nu32 (by omega) ?_ | refine IntG.nu64 (by omega) ?_ | refine IntG.wr' rfl ?_ | refine Chk.mk (by omega) ?_ | (refine BrG.id ?_; first | with_reducible refine BrG.t ?_ | with_reducible refine BrG.f ?_ | with_reducible refine BrG.notG ?_ | with_reducible refine BrG.nn ?_ | with_reducible refine BrG.ns ?_ | refine BrG.pos (by omega) ?_ | refine BrG.neg (by omega) ?_ | with_reducible refine BrG.pos rfl ?_ | refine BrG.pos (by assumption) ?_ | refine BrG.neg (by assumption) ?_ | refine BrG.pos (by decide) ?_ | refine BrG.neg (by decide) ?_) | refine Chk.mk (ptr_ok tblOk rfl rfl) ?_ | refine Chk.mk (by decide) ?_ | refine hS.ld rfl ?_ | refine hS.ldn rfl ?_ | (refine hS.st rfl rfl ?_; intro _ hS))
        exact ⟨⟨i + 1, (rbInt s).2, l ++ [(rbInt s).1], a', c'⟩, ⟨rfl, rfl, rfl, rfl, trivial⟩, ⟨⟨by simp only; omega, hx, by simp only [List.length_append, List.length_singleton]; omega⟩, L', hv', hS⟩, by simp only; omega⟩
    · have hie : n - i = 0 := by omega
      rw [hie] at hx
      have hx : (s, l) = X := hx
      subst hx
      repeat (first | refine SemW.run tblOk ?_ | refine IntG.nw (by omega) ?_ | refine IntG.nu8 (by omega) ?_ | refine IntG.nu32 (by omega) ?_ | refine IntG.nu64 (by omega) ?_ | refine IntG.wr' rfl ?_ | refine Chk.mk (by omega) ?_ | (refine BrG.id ?_; first | with_reducible refine BrG.t ?_ | with_reducible refine BrG.f ?_ | with_reducible refine BrG.notG ?_ | with_reducible refine BrG.nn ?_ | with_reducible refine BrG.ns ?_ | refine BrG.pos (by omega) ?_ | refine BrG.neg (by omega) ?_ | with_reducible refine BrG.pos rfl ?_ | refine BrG.pos (by assumption) ?_ | refine BrG.neg (by assumption) ?_ | refine BrG.pos (by decide) ?_ | refine BrG.neg (by decide) ?_) | refine Chk.mk (ptr_ok tblOk rfl rfl) ?_ | refine Chk.mk (by decide) ?_ | refine hS.ld rfl ?_ | refine hS.ldn rfl ?_ | (refine hS.st rfl rfl ?_; intro _ hS))
      exact ⟨a, c, L, hv, hS⟩
  | false =>
    have hbd3 := hbd2 rfl
    repeat (first | refine SemW.run tblOk ?_ | refine IntG.nw (by omega) ?_ | refine IntG.nu8 (by omega) ?_ | refine IntG.nu32 (by omega) ?_ | refine IntG.nu64 (by omega) ?_ | refine IntG.wr' rfl ?_ | refine Chk.mk (by omega) ?_ | (refine BrG.id ?_; first | with_reducible refine BrG.t ?_ | with_reducible refine BrG.f ?_ | with_reducible refine BrG.notG ?_ | with_reducible refine BrG.nn ?_ | with_reducible refine BrG.ns ?_ | refine BrG.pos (by omega) ?_ | refine BrG.neg (by omega) ?_ | with_reducible refine BrG.pos rfl ?_ | refine BrG.pos (by assumption) ?_ | refine BrG.neg (by assumption) ?_ | refine BrG.pos (by decide) ?_ | refine BrG.neg (by decide) ?_) | refine Chk.mk (ptr_ok tblOk rfl rfl) ?_ | refine Chk.mk (by decide) ?_ | refine hS.ld rfl ?_ | refine hS.ldn rfl ?_ | (refine hS.st rfl rfl ?_; intro _ hS))
    rw [hbd3] at hS
    refine SemW.loop (fun z : EII => [(0, ptr rr), (1, .func (.func f_manifest_Decode_2) ⟨[]⟩ ⟨[ptr b5, ptr b4]⟩), (4, .int .u64 n), (6, .int .u64 z.i)])
      (fun z w' => (z.i ≤ n ∧ rdI (n - z.i) (z.s, z.l) = X ∧ z.l.length + z.s.t.length ≤ N + bit z.s.bad) ∧ ∃ L, Vec T_int 1 z.a z.l.length z.c (z.l.map intV) L ∧ St w T ((rr, .cells ⟨[ptr rb, .bool z.s.bad]⟩ T_manifest_reader (0, 0)) :: (rb, .cells ⟨[Str z.s.t]⟩ T_pack_Reader (0, 0)) :: (b4, .cells ⟨[ptr rr]⟩ T_Ptr_manifest_reader (0, 0)) :: (b5, .cells ⟨[.slice fa fn fc, .slice z.a z.l.length z.c, .int .i64 0, .int .i64 0, .int .i64 0]⟩ T_api_Edit (0, 0)) :: L) w') (fun z => n - z.i) ⟨0, ⟨t1, _⟩, l, a, c⟩
      ⟨rfl, rfl, rfl, rfl, trivial⟩ ⟨hj, L, hv, hS⟩ ?_
    clear hS hj hX hv hS' hrn hbd hbd2
    rintro ⟨i, s, l, a, c⟩ w2 ⟨⟨hi, hx, hsz⟩, L, hv, hS⟩
    simp only at hi hx hsz hv hS ⊢
    by_cases hin : i < n
    · cases hb : s.bad with
      | true =>
        rw [rdI_stop _ _ _ hb] at hx
        subst hx
        rw [hb] at hS
        repeat (first | refine SemW.run tblOk ?_ | refine IntG.nw (by omega) ?_ | refine IntG.nu8 (by omega) ?_ | refine IntG.nu32 (by omega) ?_ | refine IntG.nu64 (by omega) ?_ | refine IntG.wr' rfl ?_ | refine Chk.mk (by omega) ?_ | (refine BrG.id ?_; first | with_reducible refine BrG.t ?_ | with_reducible refine BrG.f ?_ | with_reducible refine BrG.notG ?_ | with_reducible refine BrG.nn ?_ | with_reducible refine BrG.ns ?_ | refine BrG.pos (by omega) ?_ | refine BrG.neg (by omega) ?_ | with_reducible refine BrG.pos rfl ?_ | refine BrG.pos (by assumption) ?_ | refine BrG.neg (by assumption) ?_ | refine BrG.pos (by decide) ?_ | refine BrG.neg (by decide) ?_) | refine Chk.mk (ptr_ok tblOk rfl rfl) ?_ | refine Chk.mk (by decide) ?_ | refine hS.ld rfl ?_ | refine hS.ldn rfl ?_ | (refine hS.st rfl rfl ?_; intro _ hS))
        rw [← hb] at hS
        exact ⟨a, c, L, hv, hS⟩
      | false =>
        have hsl := rbInt_len hb
        rw [show n - i = (n - (i + 1)) + 1 by omega, rdI_step _ _ _ hb] at hx
        have hb0 : bit s.bad = 0 := by rw [hb]; rfl
        have hSb := hS
        rw [hb] at hS
        repeat (first | refine SemW.run tblOk ?_ | refine IntG.nw (by omega) ?_ | refine IntG.nu8 (by omega) ?_ | refine IntG.nu32 (by omega) ?_ | refine IntG.nu64 (by omega) ?_ | refine IntG.wr' rfl ?_ | refine Chk.mk (by omega) ?_ | (refine BrG.id ?_; first | with_reducible refine BrG.t ?_ | with_reducible refine BrG.f ?_ | with_reducible refine BrG.notG ?_ | with_reducible refine BrG.nn ?_ | with_reducible refine BrG.ns ?_ | refine BrG.pos (by omega) ?_ | refine BrG.neg (by omega) ?_ | with_reducible refine BrG.pos rfl ?_ | refine BrG.pos (by assumption) ?_ | refine BrG.neg (by assumption) ?_ | refine BrG.pos (by decide) ?_ | refine BrG.neg (by decide) ?_) | refine Chk.mk (ptr_ok tblOk rfl rfl) ?_ | refine Chk.mk (by decide) ?_ | refine hS.ld rfl ?_ | refine hS.ldn rfl ?_ | (refine hS.st rfl rfl ?_; intro _ hS))
        refine Cl.mono (rdOne_spec (s := s) hv hSb.holds (by omega) (by omega)) ?_
        rintro _ w3 ⟨a', c', L', hv', hS'⟩
        have hS := St.callAll hSb hS'
        repeat (first | refine SemW.run tblOk ?_ | refine IntG.nw (by omega) ?_ | refine IntG.nu8 (by omega) ?_ | refine IntG.nu32 (by omega) ?_ | refine IntG.nu64 (by omega) ?_ | refine IntG.wr' rfl ?_ | refine Chk.mk (by omega) ?_ | (refine BrG.id ?_; first | with_reducible refine BrG.t ?_ | with_reducible refine BrG.f ?_ | with_reducible refine BrG.notG ?_ | with_reducible refine BrG.nn ?_ | with_reducible refine BrG.ns ?_ | refine BrG.pos (by omega) ?_ | refine BrG.neg (by omega) ?_ | with_reducible refine BrG.pos rfl ?_ | refine BrG.pos (by assumption) ?_ | refine BrG.neg (by assumption) ?_ | refine BrG.pos (by decide) ?_ | refine BrG.neg (by decide) ?_) | refine Chk.mk (ptr_ok tblOk rfl rfl) ?_ | refine Chk.mk (by decide) ?_ | refine hS.ld rfl ?_ | refine hS.ldn rfl ?_ | (refine hS.st rfl rfl ?_; intro _ hS))
        exact ⟨⟨i + 1, (rbInt s).2, l ++ [(rbInt s).1], a', c'⟩, ⟨rfl, rfl, rfl, rfl, trivial⟩, ⟨⟨by simp only; omega, hx, by simp only [List.length_append, List.length_singleton]; omega⟩, L', hv', hS⟩, by simp only; omega⟩
    · have hie : n - i = 0 := by omega
      rw [hie] at hx
      have hx : (s, l) = X := hx
      subst hx
      repeat (first | refine SemW.run tblOk ?_ | refine IntG.nw (by omega) ?_ | refine IntG.nu8 (by omega) ?_ | refine IntG.nu32 (by omega) ?_ | refine IntG.nu64 (by omega) ?_ | refine IntG.wr' rfl ?_ | refine Chk.mk (by omega) ?_ | (refine BrG.id ?_; first | with_reducible refine BrG.t ?_ | with_reducible refine BrG.f ?_ | with_reducible refine BrG.notG ?_ | with_reducible refine BrG.nn ?_ | with_reducible refine BrG.ns ?_ | refine BrG.pos (by omega) ?_ | refine BrG.neg (by omega) ?_ | with_reducible refine BrG.pos rfl ?_ | refine BrG.pos (by assumption) ?_ | refine BrG.neg (by assumption) ?_ | refine BrG.pos (by decide) ?_ | refine BrG.neg (by decide) ?_) | refine Chk.mk (ptr_ok tblOk rfl rfl) ?_ | refine Chk.mk (by decide) ?_ | refine hS.ld rfl ?_ | refine hS.ldn rfl ?_ | (refine hS.st rfl rfl ?_; intro _ hS))
      exact ⟨a, c, L, hv, hS⟩
theorem perm5 {α : Type} (a b c d e : α) : [a, b, c, d, e].Perm [c, d, b, a, e] := by
  have h1 : ([a, b] ++ [c, d]).Perm ([c, d] ++ [a, b]) := List.perm_append_comm
  have h2 : ([c, d] ++ [a, b]).Perm ([c, d] ++ [b, a]) := List.Perm.append_left _ (List.Perm.swap _ _ _)
  exact (h1.trans h2).append_right [e]
theorem Holds.tl1 {p : Nat × Obj} {R : Heap} {w : World} (h : Holds (p :: R) w) : Holds R w := ((St.enter h).sub (List.sublist_cons_self _ _)).holds
def zeroE : EM := ⟨[], [], 0, 0, 0⟩
/-- An edit whose lists are the call's own. -/
structure EditV (a b : Option Addr) (ca cb : Nat) (e : EM) (La Lb : Heap) : Prop where
  fv : Vec T_api_File 2 a e.add.length ca (e.add.flatMap fileC) La
  dv : Vec T_int 1 b e.del.length cb (e.del.map intV) Lb
  len : e.add.length + e.del.length ≤ 16777216
  rng : -9223372036854775808 ≤ e.wal ∧ e.wal ≤ 9223372036854775807 ∧ -9223372036854775808 ≤ e.next ∧ e.next ≤ 9223372036854775807 ∧ -9223372036854775808 ≤ e.seq ∧ e.seq ≤ 9223372036854775807
theorem EditV.at {w0 w : World} {T : List Nat} {H La Lb : Heap} {F G : Heap → Heap} {a b : Option Addr} {ca cb : Nat} {e : EM} (h : EditV a b ca cb e La Lb) (hS : St w0 T H w) [hc : Chunk H La F] [hd : Chunk H Lb G] : EditAt w a b ca cb e :=
  ⟨filesAt_vec hS h.fv, h.dv.arr hS (by simp), h.dv.cap, h.len, h.rng⟩
def DecPost (o : Option EM) (r : Value) (w w' : World) : Prop := match o with
  | none => r = .tuple ⟨[.agg ⟨editC none none 0 0 zeroE⟩, .int .i64 11]⟩ ∧ St w [] [] w'
  | some e => ∃ a b ca cb La Lb, r = .tuple ⟨[.agg ⟨editC a b ca cb e⟩, .int .i64 0]⟩ ∧ EditV a b ca cb e La Lb ∧ St w [] (La ++ Lb) w'
theorem rdF_len : ∀ (n : Nat) (s : RB) (l : List FileM), (rdF n (s, l)).2.length + (rdF n (s, l)).1.t.length ≤ l.length + s.t.length + 1
  | 0, s, l => by show l.length + s.t.length ≤ _; omega
  | n + 1, s, l => by
    cases hb : s.bad with
    | true => rw [rdF_stop _ _ _ hb]; simp only; omega
    | false =>
      have h1 := secF_len hb
      rw [rdF_step _ _ _ hb]
      cases hb2 : (secF s).2.bad with
      | true =>
        rw [rdF_stop _ _ _ hb2]
        rw [hb2] at h1
        simp only [List.length_append, List.length_singleton, bit, if_true] at h1 ⊢; omega
      | false =>
        have h2 := rdF_len n (secF s).2 (l ++ [(secF s).1])
        rw [hb2] at h1
        simp only [List.length_append, List.length_singleton, bit] at h1 h2 ⊢
        simp at h1; omega
theorem rdI_len : ∀ (n : Nat) (s : RB) (l : List Int), (rdI n (s, l)).2.length + (rdI n (s, l)).1.t.length ≤ l.length + s.t.length + 1
  | 0, s, l => by show l.length + s.t.length ≤ _; omega
  | n + 1, s, l => by
    cases hb : s.bad with
    | true => rw [rdI_stop _ _ _ hb]; simp only; omega
    | false =>
      have h1 := rbInt_len hb
      rw [rdI_step _ _ _ hb]
      cases hb2 : (rbInt s).2.bad with
      | true =>
        rw [rdI_stop _ _ _ hb2]
        rw [hb2] at h1
        simp only [List.length_append, List.length_singleton, bit, if_true] at h1 ⊢; omega
      | false =>
        have h2 := rdI_len n (rbInt s).2 (l ++ [(rbInt s).1])
        rw [hb2] at h1
        simp only [List.length_append, List.length_singleton, bit] at h1 h2 ⊢
        simp at h1; omega
theorem rbInt_ok (s : RB) : i64ok (rbInt s).1 := ok_zig (by unfold rbInt intO; simp only [zig_unzig]; exact numO_lt s.t)
set_option maxRecDepth 4000 in
set_option maxHeartbeats 8000000 in
theorem Decode_spec {w : World} {t : Bytes} (ht : t.length ≤ 16777000) :
    Cl Tryd.prog f_manifest_Decode [Str t] w fun r w' => DecPost (decodeM t) r w w' := by
  have hS := St.start w
  refine en_manifest_Decode rfl ?_
  repeat (first | refine SemW.run tblOk ?_ | refine IntG.nw (by omega) ?_ | refine IntG.nu8 (by omega) ?_ | refine IntG.nu32 (by omega) ?_ | refine IntG.nu64 (by omega) ?_ | refine IntG.wr' rfl ?_ | refine Chk.mk (by omega) ?_ | (refine BrG.id ?_; first | with_reducible refine BrG.t ?_ | with_reducible refine BrG.f ?_ | with_reducible refine BrG.notG ?_ | with_reducible refine BrG.nn ?_ | with_reducible refine BrG.ns ?_ | refine BrG.pos (by omega) ?_ | refine BrG.neg (by omega) ?_ | with_reducible refine BrG.pos rfl ?_ | refine BrG.pos (by assumption) ?_ | refine BrG.neg (by assumption) ?_ | refine BrG.pos (by decide) ?_ | refine BrG.neg (by decide) ?_) | refine Chk.mk (ptr_ok tblOk rfl rfl) ?_ | refine Chk.mk (by decide) ?_)
  refine hS.al ?_
  intro b2 w1 _ hS
  repeat (first | refine SemW.run tblOk ?_ | refine IntG.nw (by omega) ?_ | refine IntG.nu8 (by omega) ?_ | refine IntG.nu32 (by omega) ?_ | refine IntG.nu64 (by omega) ?_ | refine IntG.wr' rfl ?_ | refine Chk.mk (by omega) ?_ | (refine BrG.id ?_; first | with_reducible refine BrG.t ?_ | with_reducible refine BrG.f ?_ | with_reducible refine BrG.notG ?_ | with_reducible refine BrG.nn ?_ | with_reducible refine BrG.ns ?_ | refine BrG.pos (by omega) ?_ | refine BrG.neg (by omega) ?_ | with_reducible refine BrG.pos rfl ?_ | refine BrG.pos (by assumption) ?_ | refine BrG.neg (by assumption) ?_ | refine BrG.pos (by decide) ?_ | refine BrG.neg (by decide) ?_) | refine Chk.mk (ptr_ok tblOk rfl rfl) ?_ | refine Chk.mk (by decide) ?_)
  refine Cl.mono PRead_spec ?_
  rintro _ w2 ⟨rb, rfl, hS'⟩
  have hS := hS.callNew hS'
  repeat (first | refine SemW.run tblOk ?_ | refine IntG.nw (by omega) ?_ | refine IntG.nu8 (by omega) ?_ | refine IntG.nu32 (by omega) ?_ | refine IntG.nu64 (by omega) ?_ | refine IntG.wr' rfl ?_ | refine Chk.mk (by omega) ?_ | (refine BrG.id ?_; first | with_reducible refine BrG.t ?_ | with_reducible refine BrG.f ?_ | with_reducible refine BrG.notG ?_ | with_reducible refine BrG.nn ?_ | with_reducible refine BrG.ns ?_ | refine BrG.pos (by omega) ?_ | refine BrG.neg (by omega) ?_ | with_reducible refine BrG.pos rfl ?_ | refine BrG.pos (by assumption) ?_ | refine BrG.neg (by assumption) ?_ | refine BrG.pos (by decide) ?_ | refine BrG.neg (by decide) ?_) | refine Chk.mk (ptr_ok tblOk rfl rfl) ?_ | refine Chk.mk (by decide) ?_)
  refine hS.al ?_
  intro rr w3 _ hS
  repeat (first | refine SemW.run tblOk ?_ | refine IntG.nw (by omega) ?_ | refine IntG.nu8 (by omega) ?_ | refine IntG.nu32 (by omega) ?_ | refine IntG.nu64 (by omega) ?_ | refine IntG.wr' rfl ?_ | refine Chk.mk (by omega) ?_ | (refine BrG.id ?_; first | with_reducible refine BrG.t ?_ | with_reducible refine BrG.f ?_ | with_reducible refine BrG.notG ?_ | with_reducible refine BrG.nn ?_ | with_reducible refine BrG.ns ?_ | refine BrG.pos (by omega) ?_ | refine BrG.neg (by omega) ?_ | with_reducible refine BrG.pos rfl ?_ | refine BrG.pos (by assumption) ?_ | refine BrG.neg (by assumption) ?_ | refine BrG.pos (by decide) ?_ | refine BrG.neg (by decide) ?_) | refine Chk.mk (ptr_ok tblOk rfl rfl) ?_ | refine Chk.mk (by decide) ?_)
  refine hS.al ?_
  intro b4 w4 _ hS
  repeat (first | refine SemW.run tblOk ?_ | refine IntG.nw (by omega) ?_ | refine IntG.nu8 (by omega) ?_ | refine IntG.nu32 (by omega) ?_ | refine IntG.nu64 (by omega) ?_ | refine IntG.wr' rfl ?_ | refine Chk.mk (by omega) ?_ | (refine BrG.id ?_; first | with_reducible refine BrG.t ?_ | with_reducible refine BrG.f ?_ | with_reducible refine BrG.notG ?_ | with_reducible refine BrG.nn ?_ | with_reducible refine BrG.ns ?_ | refine BrG.pos (by omega) ?_ | refine BrG.neg (by omega) ?_ | with_reducible refine BrG.pos rfl ?_ | refine BrG.pos (by assumption) ?_ | refine BrG.neg (by assumption) ?_ | refine BrG.pos (by decide) ?_ | refine BrG.neg (by decide) ?_) | refine Chk.mk (ptr_ok tblOk rfl rfl) ?_ | refine Chk.mk (by decide) ?_ | refine hS.ld rfl ?_ | refine hS.ldn rfl ?_ | (refine hS.st rfl rfl ?_; intro _ hS))
  refine hS.al ?_
  intro b5 w5 _ hS
  have hS : St w [] ([(b5, .cells ⟨[.slice none 0 0, .slice none 0 0, .int .i64 0, .int .i64 0, .int .i64 0]⟩ T_api_Edit (0, 0)), (b4, .cells ⟨[ptr rr]⟩ T_Ptr_manifest_reader (0, 0))] ++ ([(rr, .cells ⟨[ptr rb, .bool false]⟩ T_manifest_reader (0, 0)), (rb, .cells ⟨[Str t]⟩ T_pack_Reader (0, 0))] ++ [(b2, .cells ⟨[.slice none 0 0, .slice none 0 0, .int .i64 0, .int .i64 0, .int .i64 0]⟩ T_api_Edit (0, 0))])) w5 := hS
  have hS : St w [] (((rr, .cells ⟨[ptr rb, .bool false]⟩ T_manifest_reader (0, 0)) :: (rb, .cells ⟨[Str t]⟩ T_pack_Reader (0, 0)) :: (b4, .cells ⟨[ptr rr]⟩ T_Ptr_manifest_reader (0, 0)) :: (b5, .cells ⟨[.slice none 0 0, .slice none 0 0, .int .i64 0, .int .i64 0, .int .i64 0]⟩ T_api_Edit (0, 0)) :: []) ++ [(b2, .cells ⟨[.slice none 0 0, .slice none 0 0, .int .i64 0, .int .i64 0, .int .i64 0]⟩ T_api_Edit (0, 0))]) w5 := hS.perm (perm5 _ _ _ _ _)
  repeat (first | refine SemW.run tblOk ?_ | refine IntG.nw (by omega) ?_ | refine IntG.nu8 (by omega) ?_ | refine IntG.nu32 (by omega) ?_ | refine IntG.nu64 (by omega) ?_ | refine IntG.wr' rfl ?_ | refine Chk.mk (by omega) ?_ | (refine BrG.id ?_; first | with_reducible refine BrG.t ?_ | with_reducible refine BrG.f ?_ | with_reducible refine BrG.notG ?_ | with_reducible refine BrG.nn ?_ | with_reducible refine BrG.ns ?_ | refine BrG.pos (by omega) ?_ | refine BrG.neg (by omega) ?_ | with_reducible refine BrG.pos rfl ?_ | refine BrG.pos (by assumption) ?_ | refine BrG.neg (by assumption) ?_ | refine BrG.pos (by decide) ?_ | refine BrG.neg (by decide) ?_) | refine Chk.mk (ptr_ok tblOk rfl rfl) ?_ | refine Chk.mk (by decide) ?_ | refine hS.ld rfl ?_ | refine hS.ldn rfl ?_ | (refine hS.st rfl rfl ?_; intro _ hS))
  refine RunG.of rfl ?_
  repeat (first | refine SemW.run tblOk ?_ | refine IntG.nw (by omega) ?_ | refine IntG.nu8 (by omega) ?_ | refine IntG.nu32 (by omega) ?_ | refine IntG.nu64 (by omega) ?_ | refine IntG.wr' rfl ?_ | refine Chk.mk (by omega) ?_ | (refine BrG.id ?_; first | with_reducible refine BrG.t ?_ | with_reducible refine BrG.f ?_ | with_reducible refine BrG.notG ?_ | with_reducible refine BrG.nn ?_ | with_reducible refine BrG.ns ?_ | refine BrG.pos (by omega) ?_ | refine BrG.neg (by omega) ?_ | with_reducible refine BrG.pos rfl ?_ | refine BrG.pos (by assumption) ?_ | refine BrG.neg (by assumption) ?_ | refine BrG.pos (by decide) ?_ | refine BrG.neg (by decide) ?_) | refine Chk.mk (ptr_ok tblOk rfl rfl) ?_ | refine Chk.mk (by decide) ?_ | refine hS.ld rfl ?_ | refine hS.ldn rfl ?_ | (refine hS.st rfl rfl ?_; intro _ hS))
  refine Cl.mono (eachF_spec (N := t.length) (s := ⟨t, false⟩) (l := []) Vec.nil (hS.part (L := (rr, .cells ⟨[ptr rb, .bool false]⟩ T_manifest_reader (0, 0)) :: (rb, .cells ⟨[Str t]⟩ T_pack_Reader (0, 0)) :: (b4, .cells ⟨[ptr rr]⟩ T_Ptr_manifest_reader (0, 0)) :: (b5, .cells ⟨[.slice none 0 0, .slice none 0 0, .int .i64 0, .int .i64 0, .int .i64 0]⟩ T_api_Edit (0, 0)) :: [])) rfl (by simp) (by omega)) ?_
  rintro _ w6 ⟨fa, fc, La, hfv, hS'⟩
  have hS := hS.call (L := (rr, .cells ⟨[ptr rb, .bool false]⟩ T_manifest_reader (0, 0)) :: (rb, .cells ⟨[Str t]⟩ T_pack_Reader (0, 0)) :: (b4, .cells ⟨[ptr rr]⟩ T_Ptr_manifest_reader (0, 0)) :: (b5, .cells ⟨[.slice none 0 0, .slice none 0 0, .int .i64 0, .int .i64 0, .int .i64 0]⟩ T_api_Edit (0, 0)) :: []) hS'
  have hrl := rdF_len (rbNum ⟨t, false⟩).1 (rbNum ⟨t, false⟩).2 []
  have hnl : (rbNum ⟨t, false⟩).2.t.length ≤ t.length := numO_len t
  unfold decodeM readE
  simp only
  generalize rdF (rbNum ⟨t, false⟩).1 ((rbNum ⟨t, false⟩).2, []) = X1 at hS hfv hrl ⊢
  obtain ⟨s1, l1⟩ := X1
  simp only [List.length_nil] at hS hfv hrl ⊢
  have hS : St w [] (((rr, .cells ⟨[ptr rb, .bool s1.bad]⟩ T_manifest_reader (0, 0)) :: (rb, .cells ⟨[Str s1.t]⟩ T_pack_Reader (0, 0)) :: (b4, .cells ⟨[ptr rr]⟩ T_Ptr_manifest_reader (0, 0)) :: (b5, .cells ⟨[.slice fa l1.length fc, .slice none 0 0, .int .i64 0, .int .i64 0, .int .i64 0]⟩ T_api_Edit (0, 0)) :: []) ++ (La ++ [(b2, .cells ⟨[.slice none 0 0, .slice none 0 0, .int .i64 0, .int .i64 0, .int .i64 0]⟩ T_api_Edit (0, 0))])) w6 := hS
  repeat (first | refine SemW.run tblOk ?_ | refine IntG.nw (by omega) ?_ | refine IntG.nu8 (by omega) ?_ | refine IntG.nu32 (by omega) ?_ | refine IntG.nu64 (by omega) ?_ | refine IntG.wr' rfl ?_ | refine Chk.mk (by omega) ?_ | (refine BrG.id ?_; first | with_reducible refine BrG.t ?_ | with_reducible refine BrG.f ?_ | with_reducible refine BrG.notG ?_ | with_reducible refine BrG.nn ?_ | with_reducible refine BrG.ns ?_ | refine BrG.pos (by omega) ?_ | refine BrG.neg (by omega) ?_ | with_reducible refine BrG.pos rfl ?_ | refine BrG.pos (by assumption) ?_ | refine BrG.neg (by assumption) ?_ | refine BrG.pos (by decide) ?_ | refine BrG.neg (by decide) ?_) | refine Chk.mk (ptr_ok tblOk rfl rfl) ?_ | refine Chk.mk (by decide) ?_ | refine hS.ld rfl ?_ | refine hS.ldn rfl ?_ | (refine hS.st rfl rfl ?_; intro _ hS))
  refine RunG.of rfl ?_
  repeat (first | refine SemW.run tblOk ?_ | refine IntG.nw (by omega) ?_ | refine IntG.nu8 (by omega) ?_ | refine IntG.nu32 (by omega) ?_ | refine IntG.nu64 (by omega) ?_ | refine IntG.wr' rfl ?_ | refine Chk.mk (by omega) ?_ | (refine BrG.id ?_; first | with_reducible refine BrG.t ?_ | with_reducible refine BrG.f ?_ | with_reducible refine BrG.notG ?_ | with_reducible refine BrG.nn ?_ | with_reducible refine BrG.ns ?_ | refine BrG.pos (by omega) ?_ | refine BrG.neg (by omega) ?_ | with_reducible refine BrG.pos rfl ?_ | refine BrG.pos (by assumption) ?_ | refine BrG.neg (by assumption) ?_ | refine BrG.pos (by decide) ?_ | refine BrG.neg (by decide) ?_) | refine Chk.mk (ptr_ok tblOk rfl rfl) ?_ | refine Chk.mk (by decide) ?_ | refine hS.ld rfl ?_ | refine hS.ldn rfl ?_ | (refine hS.st rfl rfl ?_; intro _ hS))
  refine Cl.mono (eachI_spec (N := s1.t.length) (s := s1) (l := []) (fa := fa) (fn := l1.length) (fc := fc) Vec.nil (hS.part (L := (rr, .cells ⟨[ptr rb, .bool s1.bad]⟩ T_manifest_reader (0, 0)) :: (rb, .cells ⟨[Str s1.t]⟩ T_pack_Reader (0, 0)) :: (b4, .cells ⟨[ptr rr]⟩ T_Ptr_manifest_reader (0, 0)) :: (b5, .cells ⟨[.slice fa l1.length fc, .slice none 0 0, .int .i64 0, .int .i64 0, .int .i64 0]⟩ T_api_Edit (0, 0)) :: [])) (by simp) (by omega)) ?_
  rintro _ w7 ⟨ia, ic, Lb, hiv, hS'⟩
  have hS := hS.call (L := (rr, .cells ⟨[ptr rb, .bool s1.bad]⟩ T_manifest_reader (0, 0)) :: (rb, .cells ⟨[Str s1.t]⟩ T_pack_Reader (0, 0)) :: (b4, .cells ⟨[ptr rr]⟩ T_Ptr_manifest_reader (0, 0)) :: (b5, .cells ⟨[.slice fa l1.length fc, .slice none 0 0, .int .i64 0, .int .i64 0, .int .i64 0]⟩ T_api_Edit (0, 0)) :: []) hS'
  have hrl2 := rdI_len (rbNum s1).1 (rbNum s1).2 []
  have hnl2 : (rbNum s1).2.t.length ≤ s1.t.length := numO_len s1.t
  generalize rdI (rbNum s1).1 ((rbNum s1).2, []) = X2 at hS hiv hrl2 ⊢
  obtain ⟨s2, l2⟩ := X2
  simp only [List.length_nil] at hS hiv hrl2 ⊢
  have hS : St w [] ([(rr, rdrC rb s2.bad), (rb, rdC s2.t)] ++ ((b4, .cells ⟨[ptr rr]⟩ T_Ptr_manifest_reader (0, 0)) :: (b5, .cells ⟨[.slice fa l1.length fc, .slice ia l2.length ic, .int .i64 0, .int .i64 0, .int .i64 0]⟩ T_api_Edit (0, 0)) :: (Lb ++ (La ++ [(b2, .cells ⟨[.slice none 0 0, .slice none 0 0, .int .i64 0, .int .i64 0, .int .i64 0]⟩ T_api_Edit (0, 0))])))) w7 := hS
  repeat (first | refine SemW.run tblOk ?_ | refine IntG.nw (by omega) ?_ | refine IntG.nu8 (by omega) ?_ | refine IntG.nu32 (by omega) ?_ | refine IntG.nu64 (by omega) ?_ | refine IntG.wr' rfl ?_ | refine Chk.mk (by omega) ?_ | (refine BrG.id ?_; first | with_reducible refine BrG.t ?_ | with_reducible refine BrG.f ?_ | with_reducible refine BrG.notG ?_ | with_reducible refine BrG.nn ?_ | with_reducible refine BrG.ns ?_ | refine BrG.pos (by omega) ?_ | refine BrG.neg (by omega) ?_ | with_reducible refine BrG.pos rfl ?_ | refine BrG.pos (by assumption) ?_ | refine BrG.neg (by assumption) ?_ | refine BrG.pos (by decide) ?_ | refine BrG.neg (by decide) ?_) | refine Chk.mk (ptr_ok tblOk rfl rfl) ?_ | refine Chk.mk (by decide) ?_ | refine hS.ld rfl ?_ | refine hS.ldn rfl ?_ | (refine hS.st rfl rfl ?_; intro _ hS))
  refine Cl.mono (rint_spec (s := s2) (hS.part (L := [(rr, rdrC rb s2.bad), (rb, rdC s2.t)])) (by omega)) ?_
  rintro _ w8 ⟨rfl, hS'⟩
  have hS := hS.call (L := [(rr, rdrC rb s2.bad), (rb, rdC s2.t)]) hS'
  have hz1 := rbInt_ok s2
  have hl3 : (rbInt s2).2.t.length ≤ s2.t.length := intO_len s2.t
  generalize rbInt s2 = X3 at hS hz1 hl3 ⊢
  obtain ⟨z1, s3⟩ := X3
  simp only at hS hz1 hl3 ⊢
  repeat (first | refine SemW.run tblOk ?_ | refine IntG.nw (by omega) ?_ | refine IntG.nu8 (by omega) ?_ | refine IntG.nu32 (by omega) ?_ | refine IntG.nu64 (by omega) ?_ | refine IntG.wr' rfl ?_ | refine Chk.mk (by omega) ?_ | (refine BrG.id ?_; first | with_reducible refine BrG.t ?_ | with_reducible refine BrG.f ?_ | with_reducible refine BrG.notG ?_ | with_reducible refine BrG.nn ?_ | with_reducible refine BrG.ns ?_ | refine BrG.pos (by omega) ?_ | refine BrG.neg (by omega) ?_ | with_reducible refine BrG.pos rfl ?_ | refine BrG.pos (by assumption) ?_ | refine BrG.neg (by assumption) ?_ | refine BrG.pos (by decide) ?_ | refine BrG.neg (by decide) ?_) | refine Chk.mk (ptr_ok tblOk rfl rfl) ?_ | refine Chk.mk (by decide) ?_ | refine hS.ld rfl ?_ | refine hS.ldn rfl ?_ | (refine hS.st rfl rfl ?_; intro _ hS))
  refine Cl.mono (rint_spec (s := s3) (hS.part (L := [(rr, rdrC rb s3.bad), (rb, rdC s3.t)])) (by omega)) ?_
  rintro _ w9 ⟨rfl, hS'⟩
  have hS := hS.call (L := [(rr, rdrC rb s3.bad), (rb, rdC s3.t)]) hS'
  have hz2 := rbInt_ok s3
  have hl4 : (rbInt s3).2.t.length ≤ s3.t.length := intO_len s3.t
  generalize rbInt s3 = X4 at hS hz2 hl4 ⊢
  obtain ⟨z2, s4⟩ := X4
  simp only at hS hz2 hl4 ⊢
  repeat (first | refine SemW.run tblOk ?_ | refine IntG.nw (by omega) ?_ | refine IntG.nu8 (by omega) ?_ | refine IntG.nu32 (by omega) ?_ | refine IntG.nu64 (by omega) ?_ | refine IntG.wr' rfl ?_ | refine Chk.mk (by omega) ?_ | (refine BrG.id ?_; first | with_reducible refine BrG.t ?_ | with_reducible refine BrG.f ?_ | with_reducible refine BrG.notG ?_ | with_reducible refine BrG.nn ?_ | with_reducible refine BrG.ns ?_ | refine BrG.pos (by omega) ?_ | refine BrG.neg (by omega) ?_ | with_reducible refine BrG.pos rfl ?_ | refine BrG.pos (by assumption) ?_ | refine BrG.neg (by assumption) ?_ | refine BrG.pos (by decide) ?_ | refine BrG.neg (by decide) ?_) | refine Chk.mk (ptr_ok tblOk rfl rfl) ?_ | refine Chk.mk (by decide) ?_ | refine hS.ld rfl ?_ | refine hS.ldn rfl ?_ | (refine hS.st rfl rfl ?_; intro _ hS))
  refine Cl.mono (rint_spec (s := s4) (hS.part (L := [(rr, rdrC rb s4.bad), (rb, rdC s4.t)])) (by omega)) ?_
  rintro _ w10 ⟨rfl, hS'⟩
  have hS := hS.call (L := [(rr, rdrC rb s4.bad), (rb, rdC s4.t)]) hS'
  have hz3 := rbInt_ok s4
  generalize rbInt s4 = X5 at hS hz3 ⊢
  obtain ⟨z3, s5⟩ := X5
  simp only at hS hz3 ⊢
  repeat (first | refine SemW.run tblOk ?_ | refine IntG.nw (by omega) ?_ | refine IntG.nu8 (by omega) ?_ | refine IntG.nu32 (by omega) ?_ | refine IntG.nu64 (by omega) ?_ | refine IntG.wr' rfl ?_ | refine Chk.mk (by omega) ?_ | (refine BrG.id ?_; first | with_reducible refine BrG.t ?_ | with_reducible refine BrG.f ?_ | with_reducible refine BrG.notG ?_ | with_reducible refine BrG.nn ?_ | with_reducible refine BrG.ns ?_ | refine BrG.pos (by omega) ?_ | refine BrG.neg (by omega) ?_ | with_reducible refine BrG.pos rfl ?_ | refine BrG.pos (by assumption) ?_ | refine BrG.neg (by assumption) ?_ | refine BrG.pos (by decide) ?_ | refine BrG.neg (by decide) ?_) | refine Chk.mk (ptr_ok tblOk rfl rfl) ?_ | refine Chk.mk (by decide) ?_ | refine hS.ld rfl ?_ | refine hS.ldn rfl ?_ | (refine hS.st rfl rfl ?_; intro _ hS))
  cases hb : s5.bad with
  | true =>
    rw [if_neg (by rintro ⟨h, -⟩; cases h)]
    rw [hb] at hS
    repeat (first | refine SemW.run tblOk ?_ | refine IntG.nw (by omega) ?_ | refine IntG.nu8 (by omega) ?_ | refine IntG.nu32 (by omega) ?_ | refine IntG.nu64 (by omega) ?_ | refine IntG.wr' rfl ?_ | refine Chk.mk (by omega) ?_ | (refine BrG.id ?_; first | with_reducible refine BrG.t ?_ | with_reducible refine BrG.f ?_ | with_reducible refine BrG.notG ?_ | with_reducible refine BrG.nn ?_ | with_reducible refine BrG.ns ?_ | refine BrG.pos (by omega) ?_ | refine BrG.neg (by omega) ?_ | with_reducible refine BrG.pos rfl ?_ | refine BrG.pos (by assumption) ?_ | refine BrG.neg (by assumption) ?_ | refine BrG.pos (by decide) ?_ | refine BrG.neg (by decide) ?_) | refine Chk.mk (ptr_ok tblOk rfl rfl) ?_ | refine Chk.mk (by decide) ?_ | refine hS.ld rfl ?_ | refine hS.ldn rfl ?_ | (refine hS.st rfl rfl ?_; intro _ hS))
    exact ⟨rfl, hS.nil⟩
  | false =>
    have hSb := hS
    rw [hb] at hS
    repeat (first | refine SemW.run tblOk ?_ | refine IntG.nw (by omega) ?_ | refine IntG.nu8 (by omega) ?_ | refine IntG.nu32 (by omega) ?_ | refine IntG.nu64 (by omega) ?_ | refine IntG.wr' rfl ?_ | refine Chk.mk (by omega) ?_ | (refine BrG.id ?_; first | with_reducible refine BrG.t ?_ | with_reducible refine BrG.f ?_ | with_reducible refine BrG.notG ?_ | with_reducible refine BrG.nn ?_ | with_reducible refine BrG.ns ?_ | refine BrG.pos (by omega) ?_ | refine BrG.neg (by omega) ?_ | with_reducible refine BrG.pos rfl ?_ | refine BrG.pos (by assumption) ?_ | refine BrG.neg (by assumption) ?_ | refine BrG.pos (by decide) ?_ | refine BrG.neg (by decide) ?_) | refine Chk.mk (ptr_ok tblOk rfl rfl) ?_ | refine Chk.mk (by decide) ?_ | refine hS.ld rfl ?_ | refine hS.ldn rfl ?_ | (refine hS.st rfl rfl ?_; intro _ hS))
    refine Cl.mono (RDone_spec (t := s5.t) (Holds.tl1 (hSb.part (L := [(rr, rdrC rb s5.bad), (rb, rdC s5.t)])))) ?_
    rintro _ w11 ⟨rfl, hS'⟩
    have hS := hS.call0 hS'
    by_cases hd : s5.t = []
    · rw [decide_eq_true hd]
      have hE : EditV fa ia fc ic ⟨l1, l2, z1, z2, z3⟩ La Lb := ⟨hfv, hiv, by simp only; omega, ⟨hz1.1, hz1.2, hz2.1, hz2.2, hz3.1, hz3.2⟩⟩
      have hSv := hS
      repeat (first | refine SemW.run tblOk ?_ | refine IntG.nw (by omega) ?_ | refine IntG.nu8 (by omega) ?_ | refine IntG.nu32 (by omega) ?_ | refine IntG.nu64 (by omega) ?_ | refine IntG.wr' rfl ?_ | refine Chk.mk (by omega) ?_ | (refine BrG.id ?_; first | with_reducible refine BrG.t ?_ | with_reducible refine BrG.f ?_ | with_reducible refine BrG.notG ?_ | with_reducible refine BrG.nn ?_ | with_reducible refine BrG.ns ?_ | refine BrG.pos (by omega) ?_ | refine BrG.neg (by omega) ?_ | with_reducible refine BrG.pos rfl ?_ | refine BrG.pos (by assumption) ?_ | refine BrG.neg (by assumption) ?_ | refine BrG.pos (by decide) ?_ | refine BrG.neg (by decide) ?_) | refine Chk.mk (ptr_ok tblOk rfl rfl) ?_ | refine Chk.mk (by decide) ?_ | refine hS.ld rfl ?_ | refine hS.ldn rfl ?_ | (refine hS.st rfl rfl ?_; intro _ hS))
      refine Cl.mono (right_spec (hE.at hS)) ?_
      rintro _ w12 ⟨rfl, hS'⟩
      have hS := hS.call0 hS'
      cases hr : rightE ⟨l1, l2, z1, z2, z3⟩ with
      | true =>
        rw [if_pos ⟨rfl, hd, rfl⟩]
        repeat (first | refine SemW.run tblOk ?_ | refine IntG.nw (by omega) ?_ | refine IntG.nu8 (by omega) ?_ | refine IntG.nu32 (by omega) ?_ | refine IntG.nu64 (by omega) ?_ | refine IntG.wr' rfl ?_ | refine Chk.mk (by omega) ?_ | (refine BrG.id ?_; first | with_reducible refine BrG.t ?_ | with_reducible refine BrG.f ?_ | with_reducible refine BrG.notG ?_ | with_reducible refine BrG.nn ?_ | with_reducible refine BrG.ns ?_ | refine BrG.pos (by omega) ?_ | refine BrG.neg (by omega) ?_ | with_reducible refine BrG.pos rfl ?_ | refine BrG.pos (by assumption) ?_ | refine BrG.neg (by assumption) ?_ | refine BrG.pos (by decide) ?_ | refine BrG.neg (by decide) ?_) | refine Chk.mk (ptr_ok tblOk rfl rfl) ?_ | refine Chk.mk (by decide) ?_ | refine hS.ld rfl ?_ | refine hS.ldn rfl ?_ | (refine hS.st rfl rfl ?_; intro _ hS))
        exact ⟨fa, ia, fc, ic, La, Lb, rfl, hE, ((St.tl2 (St.tl2 hS)).sub (List.Sublist.append_left (List.sublist_append_left _ _) Lb)).perm List.perm_append_comm⟩
      | false =>
        rw [if_neg (by rintro ⟨-, -, h⟩; cases h)]
        repeat (first | refine SemW.run tblOk ?_ | refine IntG.nw (by omega) ?_ | refine IntG.nu8 (by omega) ?_ | refine IntG.nu32 (by omega) ?_ | refine IntG.nu64 (by omega) ?_ | refine IntG.wr' rfl ?_ | refine Chk.mk (by omega) ?_ | (refine BrG.id ?_; first | with_reducible refine BrG.t ?_ | with_reducible refine BrG.f ?_ | with_reducible refine BrG.notG ?_ | with_reducible refine BrG.nn ?_ | with_reducible refine BrG.ns ?_ | refine BrG.pos (by omega) ?_ | refine BrG.neg (by omega) ?_ | with_reducible refine BrG.pos rfl ?_ | refine BrG.pos (by assumption) ?_ | refine BrG.neg (by assumption) ?_ | refine BrG.pos (by decide) ?_ | refine BrG.neg (by decide) ?_) | refine Chk.mk (ptr_ok tblOk rfl rfl) ?_ | refine Chk.mk (by decide) ?_ | refine hS.ld rfl ?_ | refine hS.ldn rfl ?_ | (refine hS.st rfl rfl ?_; intro _ hS))
        exact ⟨rfl, hS.nil⟩
    · rw [decide_eq_false hd, if_neg (by rintro ⟨-, h, -⟩; exact hd h)]
      repeat (first | refine SemW.run tblOk ?_ | refine IntG.nw (by omega) ?_ | refine IntG.nu8 (by omega) ?_ | refine IntG.nu32 (by omega) ?_ | refine IntG.nu64 (by omega) ?_ | refine IntG.wr' rfl ?_ | refine Chk.mk (by omega) ?_ | (refine BrG.id ?_; first | with_reducible refine BrG.t ?_ | with_reducible refine BrG.f ?_ | with_reducible refine BrG.notG ?_ | with_reducible refine BrG.nn ?_ | with_reducible refine BrG.ns ?_ | refine BrG.pos (by omega) ?_ | refine BrG.neg (by omega) ?_ | with_reducible refine BrG.pos rfl ?_ | refine BrG.pos (by assumption) ?_ | refine BrG.neg (by assumption) ?_ | refine BrG.pos (by decide) ?_ | refine BrG.neg (by decide) ?_) | refine Chk.mk (ptr_ok tblOk rfl rfl) ?_ | refine Chk.mk (by decide) ?_ | refine hS.ld rfl ?_ | refine hS.ldn rfl ?_ | (refine hS.st rfl rfl ?_; intro _ hS))
      exact ⟨rfl, hS.nil⟩
def iv (t : Bytes) : Int := (intO t).1
def ie (t : Bytes) : Bool := decide ((intO t).2.1 ≠ 0)
def ir (t : Bytes) : Bytes := (intO t).2.2
def nv (t : Bytes) : Nat := (numO t).1
def ne11 (t : Bytes) : Bool := decide ((numO t).2.1 ≠ 0)
def nr (t : Bytes) : Bytes := (numO t).2.2
def errN (b : Bool) : Int := if b = true then 1 else 0
theorem errN_int (t : Bytes) : (intO t).2.1 = errN (ie t) := by
  unfold ie errN
  rcases intO_err t with h | h <;> rw [h] <;> simp
theorem errN_num (t : Bytes) : (numO t).2.1 = errN (ne11 t) := by
  unfold ne11 errN
  rcases numO_err t with h | h <;> rw [h] <;> simp
theorem errN_or (a b : Bool) : mxI (errN a) (errN b) = errN (a || b) := by cases a <;> cases b <;> rfl
theorem iv_ok (t : Bytes) : i64ok (iv t) := rbInt_ok ⟨t, false⟩
theorem rbInt_raw (t : Bytes) (b : Bool) : rbInt ⟨t, b⟩ = (iv t, ⟨ir t, b || ie t⟩) := rfl
theorem rbNum_raw (t : Bytes) (b : Bool) : rbNum ⟨t, b⟩ = (nv t, ⟨nr t, b || ne11 t⟩) := rfl
theorem secF_raw (t : Bytes) : secF ⟨t, false⟩ = ((iv t, iv (ir t)), ⟨ir (ir t), ie t || ie (ir t)⟩) := by
  unfold secF; simp only [rbInt_raw, Bool.false_or]
theorem rdF_okall : ∀ (n : Nat) (s : RB) (l : List FileM), (∀ f ∈ l, i64ok f.1 ∧ i64ok f.2) → ∀ f ∈ (rdF n (s, l)).2, i64ok f.1 ∧ i64ok f.2
  | 0, s, l, h => h
  | n + 1, s, l, h => by
    cases hb : s.bad with
    | true => rw [rdF_stop _ _ _ hb]; exact h
    | false =>
      rw [rdF_step _ _ _ hb]
      refine rdF_okall n _ _ fun f hf => ?_
      rcases List.mem_append.1 hf with hf | hf
      · exact h f hf
      · rw [List.mem_singleton] at hf; subst hf; exact ⟨rbInt_ok _, rbInt_ok _⟩
theorem rdI_okall : ∀ (n : Nat) (s : RB) (l : List Int), (∀ z ∈ l, i64ok z) → ∀ z ∈ (rdI n (s, l)).2, i64ok z
  | 0, s, l, h => h
  | n + 1, s, l, h => by
    cases hb : s.bad with
    | true => rw [rdI_stop _ _ _ hb]; exact h
    | false =>
      rw [rdI_step _ _ _ hb]
      refine rdI_okall n _ _ fun f hf => ?_
      rcases List.mem_append.1 hf with hf | hf
      · exact h f hf
      · rw [List.mem_singleton] at hf; subst hf; exact rbInt_ok _
/-- The document's reading, its errors apart. -/
structure RefRead (t : Bytes) (s1 s2 : RB) (l1 : List FileM) (l2 : List Int) : Prop where
  h1 : rdF (nv t) (⟨nr t, ne11 t⟩, []) = (s1, l1)
  h2 : rdI (nv s1.t) (⟨nr s1.t, ne11 s1.t⟩, []) = (s2, l2)
def refE (s2 : RB) (l1 : List FileM) (l2 : List Int) : EM := ⟨l1, l2, iv s2.t, iv (ir s2.t), iv (ir (ir s2.t))⟩
def refBad (s1 s2 : RB) : Bool := s1.bad || s2.bad || ie s2.t || ie (ir s2.t) || ie (ir (ir s2.t))
theorem RefRead.good {t : Bytes} {s1 s2 : RB} {l1 : List FileM} {l2 : List Int} (h : RefRead t s1 s2 l1 l2) (hb : refBad s1 s2 = false) : readE t = (⟨ir (ir (ir s2.t)), false⟩, refE s2 l1 l2) := by
  unfold refBad at hb
  simp only [Bool.or_eq_false_iff] at hb
  obtain ⟨⟨⟨⟨e1, e2⟩, e3⟩, e4⟩, e5⟩ := hb
  obtain ⟨t1, b1⟩ := s1
  obtain ⟨t2, b2⟩ := s2
  simp only at e1 e2 e3 e4 e5
  subst e1 e2
  unfold readE
  simp only [rbNum_raw, Bool.false_or, h.h1]
  have h2 := h.h2
  simp only at h2
  simp only [h2, rbInt_raw, Bool.false_or, e3, e4, e5]
  rfl
theorem RefRead.back {t : Bytes} {s1 s2 : RB} {l1 : List FileM} {l2 : List Int} (h : RefRead t s1 s2 l1 l2) (hb : (readE t).1.bad = false) : refBad s1 s2 = false := by
  unfold readE at hb
  simp only [rbNum_raw, Bool.false_or, h.h1] at hb
  obtain ⟨g1, -, -⟩ := rbInt_good hb
  obtain ⟨g2, -, -⟩ := rbInt_good g1
  obtain ⟨g3, -, -⟩ := rbInt_good g2
  have g4 := rdI_bad _ _ _ g3
  have g5 := (rbNum_good (s := s1) g4).1
  obtain ⟨t1, b1⟩ := s1
  simp only at g5
  subst g5
  have h2 := h.h2
  simp only at h2
  simp only [rbNum_raw, Bool.false_or, h2] at hb g1 g2 g3
  obtain ⟨t2, b2⟩ := s2
  simp only at g3
  subst g3
  simp only [rbInt_raw, Bool.false_or, Bool.or_eq_false_iff] at hb g1 g2
  unfold refBad
  simp only [Bool.or_eq_false_iff]
  exact ⟨⟨⟨⟨trivial, trivial⟩, hb.1.1⟩, hb.1.2⟩, hb.2⟩
theorem RefRead.ok {t : Bytes} {s1 s2 : RB} {l1 : List FileM} {l2 : List Int} (h : RefRead t s1 s2 l1 l2) : OkE (refE s2 l1 l2) := by
  refine ⟨?_, ?_, iv_ok _, iv_ok _, iv_ok _⟩
  · have := rdF_okall (nv t) ⟨nr t, ne11 t⟩ [] (by simp)
    rw [h.h1] at this; exact this
  · have := rdI_okall (nv s1.t) ⟨nr s1.t, ne11 s1.t⟩ [] (by simp)
    rw [h.h2] at this; exact this
theorem RefRead.law {t : Bytes} {s1 s2 : RB} {l1 : List FileM} {l2 : List Int} (h : RefRead t s1 s2 l1 l2) (ht : t.length < 18446744073709551616) :
    decodeM t = if refBad s1 s2 = false ∧ rightE (refE s2 l1 l2) = true ∧ editB (refE s2 l1 l2) = t then some (refE s2 l1 l2) else none := by
  split
  · next hc => exact (decodeM_iff ht).2 ⟨hc.2.2.symm, h.ok, hc.2.1⟩
  · next hc =>
    cases hd : decodeM t with
    | none => rfl
    | some e =>
      exfalso
      apply hc
      have hd' := hd
      unfold decodeM at hd'
      split at hd'
      · next hg =>
        have hb := h.back hg.1
        have hr := h.good hb
        rw [hr] at hd'
        simp only [Option.some.injEq] at hd'
        obtain ⟨a1, a2, a3⟩ := (decodeM_iff ht).1 hd
        rw [hd']
        exact ⟨hb, a3, a1.symm⟩
      · cases hd'
theorem RIntRaw_spec {w : World} {b : Nat} {t : Bytes} (hh : Holds [(b, .cells ⟨[Str t]⟩ T_tarmacref01_Reader (0, 0))] w) (ht : t.length ≤ 70368744177664) :
    Cl Tryd.prog f_tarmacref01_Reader_Int [ptr b] w fun v w' => v = .tuple ⟨[.int .i64 (iv t), .int .i64 (errN (ie t))]⟩ ∧ St w [b] [(b, .cells ⟨[Str (ir t)]⟩ T_tarmacref01_Reader (0, 0))] w' := by
  have := RIntE_spec hh ht
  rw [errN_int] at this
  exact this
theorem RNumRaw_spec {w : World} {b : Nat} {t : Bytes} (hh : Holds [(b, .cells ⟨[Str t]⟩ T_tarmacref01_Reader (0, 0))] w) (ht : t.length ≤ 70368744177664) :
    Cl Tryd.prog f_tarmacref01_Reader_Num [ptr b] w fun v w' => v = .tuple ⟨[.int .u64 (nv t), .int .i64 (errN (ne11 t))]⟩ ∧ St w [b] [(b, .cells ⟨[Str (nr t)]⟩ T_tarmacref01_Reader (0, 0))] w' := by
  have := RNumE_spec hh ht
  rw [errN_num] at this
  exact this
theorem errN_b (b : Bool) : (errN b = 0) ↔ b = false := by cases b <;> simp [errN]
theorem mx0 (b : Bool) : mxI 0 (errN b) = errN b := by cases b <;> rfl
set_option maxRecDepth 4000 in
set_option maxHeartbeats 16000000 in
theorem Decode11_spec {w : World} {t : Bytes} (ht : t.length ≤ 16777000) :
    Cl Tryd.prog f_tarmacref11_Decode [Str t] w fun r w' => DecPost (decodeM t) r w w' := by
  have hS := St.start w
  refine en_tarmacref11_Decode rfl ?_
  repeat (first | refine SemW.run tblOk ?_ | refine IntG.nw (by omega) ?_ | refine IntG.nu8 (by omega) ?_ | refine IntG.nu32 (by omega) ?_ | refine IntG.nu64 (by omega) ?_ | refine IntG.wr' rfl ?_ | refine Chk.mk (by omega) ?_ | (refine BrG.id ?_; first | with_reducible refine BrG.t ?_ | with_reducible refine BrG.f ?_ | with_reducible refine BrG.notG ?_ | with_reducible refine BrG.nn ?_ | with_reducible refine BrG.ns ?_ | refine BrG.pos (by omega) ?_ | refine BrG.neg (by omega) ?_ | with_reducible refine BrG.pos rfl ?_ | refine BrG.pos (by assumption) ?_ | refine BrG.neg (by assumption) ?_ | refine BrG.pos (by decide) ?_ | refine BrG.neg (by decide) ?_) | refine Chk.mk (ptr_ok tblOk rfl rfl) ?_ | refine Chk.mk (by decide) ?_)
  refine hS.al ?_
  intro b2 w1 _ hS
  repeat (first | refine SemW.run tblOk ?_ | refine IntG.nw (by omega) ?_ | refine IntG.nu8 (by omega) ?_ | refine IntG.nu32 (by omega) ?_ | refine IntG.nu64 (by omega) ?_ | refine IntG.wr' rfl ?_ | refine Chk.mk (by omega) ?_ | (refine BrG.id ?_; first | with_reducible refine BrG.t ?_ | with_reducible refine BrG.f ?_ | with_reducible refine BrG.notG ?_ | with_reducible refine BrG.nn ?_ | with_reducible refine BrG.ns ?_ | refine BrG.pos (by omega) ?_ | refine BrG.neg (by omega) ?_ | with_reducible refine BrG.pos rfl ?_ | refine BrG.pos (by assumption) ?_ | refine BrG.neg (by assumption) ?_ | refine BrG.pos (by decide) ?_ | refine BrG.neg (by decide) ?_) | refine Chk.mk (ptr_ok tblOk rfl rfl) ?_ | refine Chk.mk (by decide) ?_)
  refine hS.al ?_
  intro rb w2 _ hS
  repeat (first | refine SemW.run tblOk ?_ | refine IntG.nw (by omega) ?_ | refine IntG.nu8 (by omega) ?_ | refine IntG.nu32 (by omega) ?_ | refine IntG.nu64 (by omega) ?_ | refine IntG.wr' rfl ?_ | refine Chk.mk (by omega) ?_ | (refine BrG.id ?_; first | with_reducible refine BrG.t ?_ | with_reducible refine BrG.f ?_ | with_reducible refine BrG.notG ?_ | with_reducible refine BrG.nn ?_ | with_reducible refine BrG.ns ?_ | refine BrG.pos (by omega) ?_ | refine BrG.neg (by omega) ?_ | with_reducible refine BrG.pos rfl ?_ | refine BrG.pos (by assumption) ?_ | refine BrG.neg (by assumption) ?_ | refine BrG.pos (by decide) ?_ | refine BrG.neg (by decide) ?_) | refine Chk.mk (ptr_ok tblOk rfl rfl) ?_ | refine Chk.mk (by decide) ?_)
  refine hS.al ?_
  intro b5 w3 _ hS
  repeat (first | refine SemW.run tblOk ?_ | refine IntG.nw (by omega) ?_ | refine IntG.nu8 (by omega) ?_ | refine IntG.nu32 (by omega) ?_ | refine IntG.nu64 (by omega) ?_ | refine IntG.wr' rfl ?_ | refine Chk.mk (by omega) ?_ | (refine BrG.id ?_; first | with_reducible refine BrG.t ?_ | with_reducible refine BrG.f ?_ | with_reducible refine BrG.notG ?_ | with_reducible refine BrG.nn ?_ | with_reducible refine BrG.ns ?_ | refine BrG.pos (by omega) ?_ | refine BrG.neg (by omega) ?_ | with_reducible refine BrG.pos rfl ?_ | refine BrG.pos (by assumption) ?_ | refine BrG.neg (by assumption) ?_ | refine BrG.pos (by decide) ?_ | refine BrG.neg (by decide) ?_) | refine Chk.mk (ptr_ok tblOk rfl rfl) ?_ | refine Chk.mk (by decide) ?_ | refine hS.ld rfl ?_ | refine hS.ldn rfl ?_ | (refine hS.st rfl rfl ?_; intro _ hS))
  refine Cl.mono (RNumRaw_spec (t := t) (hS.part (L := [(rb, .cells ⟨[Str t]⟩ T_tarmacref01_Reader (0, 0))])) (by omega)) ?_
  rintro _ w4 ⟨rfl, hS'⟩
  have hS := hS.call (L := [(rb, .cells ⟨[Str t]⟩ T_tarmacref01_Reader (0, 0))]) hS'
  have hnl : (nr t).length ≤ t.length := numO_len t
  have hnlt : nv t < 18446744073709551616 := numO_lt t
  have hS : St w [] ((b5, .cells ⟨[.slice none 0 0, .slice none 0 0, .int .i64 0, .int .i64 0, .int .i64 0]⟩ T_api_Edit (0, 0)) :: ([(rb, .cells ⟨[Str (nr t)]⟩ T_tarmacref01_Reader (0, 0))] ++ ([] ++ [(b2, .cells ⟨[.slice none 0 0, .slice none 0 0, .int .i64 0, .int .i64 0, .int .i64 0]⟩ T_api_Edit (0, 0))]))) w4 := hS
  have hj : (0 ≤ nv t ∧ rdF (nv t - 0) (⟨nr t, ne11 t⟩, []) = rdF (nv t) (⟨nr t, ne11 t⟩, []) ∧ ([] : List FileM).length + (nr t).length ≤ t.length + bit (ne11 t)) := ⟨Nat.zero_le _, rfl, by simp only [List.length_nil]; omega⟩
  repeat (first | refine SemW.run tblOk ?_ | refine IntG.nw (by omega) ?_ | refine IntG.nu8 (by omega) ?_ | refine IntG.nu32 (by omega) ?_ | refine IntG.nu64 (by omega) ?_ | refine IntG.wr' rfl ?_ | refine Chk.mk (by omega) ?_ | (refine BrG.id ?_; first | with_reducible refine BrG.t ?_ | with_reducible refine BrG.f ?_ | with_reducible refine BrG.notG ?_ | with_reducible refine BrG.nn ?_ | with_reducible refine BrG.ns ?_ | refine BrG.pos (by omega) ?_ | refine BrG.neg (by omega) ?_ | with_reducible refine BrG.pos rfl ?_ | refine BrG.pos (by assumption) ?_ | refine BrG.neg (by assumption) ?_ | refine BrG.pos (by decide) ?_ | refine BrG.neg (by decide) ?_) | refine Chk.mk (ptr_ok tblOk rfl rfl) ?_ | refine Chk.mk (by decide) ?_ | refine hS.ld rfl ?_ | refine hS.ldn rfl ?_ | (refine hS.st rfl rfl ?_; intro _ hS))
  refine StopW.join (fun z : EFI => [(0, Str t), (2, ptr b2), (4, ptr rb), (5, ptr b5), (6, .int .i64 0), (8, .int .i64 (errN z.s.bad))]) (fun z w' => ((z.s, z.l) = rdF (nv t) (⟨nr t, ne11 t⟩, []) ∧ z.l.length + z.s.t.length ≤ t.length + 1) ∧ ∃ L, Vec T_api_File 2 z.a z.l.length z.c (z.l.flatMap fileC) L ∧ St w [] ((b5, .cells ⟨[.slice z.a z.l.length z.c, .slice none 0 0, .int .i64 0, .int .i64 0, .int .i64 0]⟩ T_api_Edit (0, 0)) :: ([(rb, .cells ⟨[Str z.s.t]⟩ T_tarmacref01_Reader (0, 0))] ++ (L ++ [(b2, .cells ⟨[.slice none 0 0, .slice none 0 0, .int .i64 0, .int .i64 0, .int .i64 0]⟩ T_api_Edit (0, 0))]))) w') ?_ ?_
  · refine SemW.loop (fun z : EFI => [(0, Str t), (2, ptr b2), (4, ptr rb), (5, ptr b5), (6, .int .i64 0), (7, .int .u64 (nv t)), (8, .int .i64 (errN z.s.bad)), (9, .int .u64 z.i)])
      (fun z w' => (z.i ≤ nv t ∧ rdF (nv t - z.i) (z.s, z.l) = rdF (nv t) (⟨nr t, ne11 t⟩, []) ∧ z.l.length + z.s.t.length ≤ t.length + bit z.s.bad) ∧ ∃ L, Vec T_api_File 2 z.a z.l.length z.c (z.l.flatMap fileC) L ∧ St w [] ((b5, .cells ⟨[.slice z.a z.l.length z.c, .slice none 0 0, .int .i64 0, .int .i64 0, .int .i64 0]⟩ T_api_Edit (0, 0)) :: ([(rb, .cells ⟨[Str z.s.t]⟩ T_tarmacref01_Reader (0, 0))] ++ (L ++ [(b2, .cells ⟨[.slice none 0 0, .slice none 0 0, .int .i64 0, .int .i64 0, .int .i64 0]⟩ T_api_Edit (0, 0))]))) w') (fun z => nv t - z.i) ⟨0, ⟨nr t, ne11 t⟩, [], none, 0⟩
      ⟨rfl, rfl, rfl, rfl, rfl, rfl, rfl, rfl, trivial⟩ ⟨hj, [], Vec.nil, hS⟩ ?_
    clear hS hj hS'
    generalize hX : rdF (nv t) (⟨nr t, ne11 t⟩, []) = X
    rintro ⟨i, ⟨t1, bd⟩, l, a, c⟩ w5 ⟨⟨hi, hx, hsz⟩, L, hv, hS⟩
    simp only at hi hx hsz hv hS ⊢
    have hgo : i < nv t ∧ bd = false ∨ (⟨t1, bd⟩, l) = X ∧ (i = nv t ∨ bd = true) := by
      by_cases hin : i < nv t
      · cases bd with
        | true => rw [rdF_stop _ _ _ rfl] at hx; exact .inr ⟨hx, .inr rfl⟩
        | false => exact .inl ⟨hin, rfl⟩
      · rw [show nv t - i = 0 by omega] at hx; exact .inr ⟨hx, .inl (by omega)⟩
    rcases hgo with ⟨hin, rfl⟩ | ⟨rfl, hend⟩
    · have hb0 : bit false = 0 := rfl
      have he0 : errN false = 0 := rfl
      rw [show nv t - i = (nv t - (i + 1)) + 1 by omega, rdF_step _ _ _ rfl, secF_raw] at hx
      have hsl := secF_len (s := ⟨t1, false⟩) rfl
      rw [secF_raw] at hsl
      simp only at hsl hx
      have hr1 : (ir t1).length ≤ t1.length := intO_len t1
      rw [he0]
      repeat (first | refine SemW.run tblOk ?_ | refine IntG.nw (by omega) ?_ | refine IntG.nu8 (by omega) ?_ | refine IntG.nu32 (by omega) ?_ | refine IntG.nu64 (by omega) ?_ | refine IntG.wr' rfl ?_ | refine Chk.mk (by omega) ?_ | (refine BrG.id ?_; first | with_reducible refine BrG.t ?_ | with_reducible refine BrG.f ?_ | with_reducible refine BrG.notG ?_ | with_reducible refine BrG.nn ?_ | with_reducible refine BrG.ns ?_ | refine BrG.pos (by omega) ?_ | refine BrG.neg (by omega) ?_ | with_reducible refine BrG.pos rfl ?_ | refine BrG.pos (by assumption) ?_ | refine BrG.neg (by assumption) ?_ | refine BrG.pos (by decide) ?_ | refine BrG.neg (by decide) ?_) | refine Chk.mk (ptr_ok tblOk rfl rfl) ?_ | refine Chk.mk (by decide) ?_ | refine hS.ld rfl ?_ | refine hS.ldn rfl ?_ | (refine hS.st rfl rfl ?_; intro _ hS))
      refine Cl.mono (RIntRaw_spec (t := t1) (hS.part (L := [(rb, .cells ⟨[Str t1]⟩ T_tarmacref01_Reader (0, 0))])) (by omega)) ?_
      rintro _ w6 ⟨rfl, hS'⟩
      have hS := hS.call (L := [(rb, .cells ⟨[Str t1]⟩ T_tarmacref01_Reader (0, 0))]) hS'
      repeat (first | refine SemW.run tblOk ?_ | refine IntG.nw (by omega) ?_ | refine IntG.nu8 (by omega) ?_ | refine IntG.nu32 (by omega) ?_ | refine IntG.nu64 (by omega) ?_ | refine IntG.wr' rfl ?_ | refine Chk.mk (by omega) ?_ | (refine BrG.id ?_; first | with_reducible refine BrG.t ?_ | with_reducible refine BrG.f ?_ | with_reducible refine BrG.notG ?_ | with_reducible refine BrG.nn ?_ | with_reducible refine BrG.ns ?_ | refine BrG.pos (by omega) ?_ | refine BrG.neg (by omega) ?_ | with_reducible refine BrG.pos rfl ?_ | refine BrG.pos (by assumption) ?_ | refine BrG.neg (by assumption) ?_ | refine BrG.pos (by decide) ?_ | refine BrG.neg (by decide) ?_) | refine Chk.mk (ptr_ok tblOk rfl rfl) ?_ | refine Chk.mk (by decide) ?_ | refine hS.ld rfl ?_ | refine hS.ldn rfl ?_ | (refine hS.st rfl rfl ?_; intro _ hS))
      refine Cl.mono (RIntRaw_spec (t := (ir t1)) (hS.part (L := [(rb, .cells ⟨[Str (ir t1)]⟩ T_tarmacref01_Reader (0, 0))])) (by omega)) ?_
      rintro _ w7 ⟨rfl, hS'⟩
      have hS := hS.call (L := [(rb, .cells ⟨[Str (ir t1)]⟩ T_tarmacref01_Reader (0, 0))]) hS'
      repeat (first | refine SemW.run tblOk ?_ | refine IntG.nw (by omega) ?_ | refine IntG.nu8 (by omega) ?_ | refine IntG.nu32 (by omega) ?_ | refine IntG.nu64 (by omega) ?_ | refine IntG.wr' rfl ?_ | refine Chk.mk (by omega) ?_ | (refine BrG.id ?_; first | with_reducible refine BrG.t ?_ | with_reducible refine BrG.f ?_ | with_reducible refine BrG.notG ?_ | with_reducible refine BrG.nn ?_ | with_reducible refine BrG.ns ?_ | refine BrG.pos (by omega) ?_ | refine BrG.neg (by omega) ?_ | with_reducible refine BrG.pos rfl ?_ | refine BrG.pos (by assumption) ?_ | refine BrG.neg (by assumption) ?_ | refine BrG.pos (by decide) ?_ | refine BrG.neg (by decide) ?_) | refine Chk.mk (ptr_ok tblOk rfl rfl) ?_ | refine Chk.mk (by decide) ?_ | refine hS.ld rfl ?_ | refine hS.ldn rfl ?_ | (refine hS.st rfl rfl ?_; intro _ hS))
      refine hS.al ?_
      intro r w8 _ hS
      repeat (first | refine SemW.run tblOk ?_ | refine IntG.nw (by omega) ?_ | refine IntG.nu8 (by omega) ?_ | refine IntG.nu32 (by omega) ?_ | refine IntG.nu64 (by omega) ?_ | refine IntG.wr' rfl ?_ | refine Chk.mk (by omega) ?_ | (refine BrG.id ?_; first | with_reducible refine BrG.t ?_ | with_reducible refine BrG.f ?_ | with_reducible refine BrG.notG ?_ | with_reducible refine BrG.nn ?_ | with_reducible refine BrG.ns ?_ | refine BrG.pos (by omega) ?_ | refine BrG.neg (by omega) ?_ | with_reducible refine BrG.pos rfl ?_ | refine BrG.pos (by assumption) ?_ | refine BrG.neg (by assumption) ?_ | refine BrG.pos (by decide) ?_ | refine BrG.neg (by decide) ?_) | refine Chk.mk (ptr_ok tblOk rfl rfl) ?_ | refine Chk.mk (by decide) ?_ | refine hS.ld rfl ?_ | refine hS.ldn rfl ?_ | (refine hS.st rfl rfl ?_; intro _ hS))
      refine St.app (sz := 2) (m := 1) tblOk rfl rfl rfl rfl hS hv (news := fileC (iv t1, iv (ir t1))) rfl (by have := hS.arr (b := r) (T' := []) (by simp); exact this) rfl (by show (_ + _) * 16 ≤ _; omega) (by omega) ?_
      intro a2 c2 L2 w9 hv hS
      have e9 : l.flatMap fileC ++ fileC (iv t1, iv (ir t1)) = (l ++ [(iv t1, iv (ir t1))]).flatMap fileC := by simp
      have e8 : l.length + 1 = (l ++ [(iv t1, iv (ir t1))]).length := by simp
      rw [e9, e8] at hv
      rw [e8]
      have hmx := errN_or (ie t1) (ie (ir t1))
      unfold mxI at hmx
      repeat (first | refine SemW.run tblOk ?_ | refine IntG.nw (by omega) ?_ | refine IntG.nu8 (by omega) ?_ | refine IntG.nu32 (by omega) ?_ | refine IntG.nu64 (by omega) ?_ | refine IntG.wr' rfl ?_ | refine Chk.mk (by omega) ?_ | (refine BrG.id ?_; first | with_reducible refine BrG.t ?_ | with_reducible refine BrG.f ?_ | with_reducible refine BrG.notG ?_ | with_reducible refine BrG.nn ?_ | with_reducible refine BrG.ns ?_ | refine BrG.pos (by omega) ?_ | refine BrG.neg (by omega) ?_ | with_reducible refine BrG.pos rfl ?_ | refine BrG.pos (by assumption) ?_ | refine BrG.neg (by assumption) ?_ | refine BrG.pos (by decide) ?_ | refine BrG.neg (by decide) ?_) | refine Chk.mk (ptr_ok tblOk rfl rfl) ?_ | refine Chk.mk (by decide) ?_ | refine hS.ld rfl ?_ | refine hS.ldn rfl ?_ | (refine hS.st rfl rfl ?_; intro _ hS))
      rw [hmx]
      repeat (first | refine SemW.run tblOk ?_ | refine IntG.nw (by omega) ?_ | refine IntG.nu8 (by omega) ?_ | refine IntG.nu32 (by omega) ?_ | refine IntG.nu64 (by omega) ?_ | refine IntG.wr' rfl ?_ | refine Chk.mk (by omega) ?_ | (refine BrG.id ?_; first | with_reducible refine BrG.t ?_ | with_reducible refine BrG.f ?_ | with_reducible refine BrG.notG ?_ | with_reducible refine BrG.nn ?_ | with_reducible refine BrG.ns ?_ | refine BrG.pos (by omega) ?_ | refine BrG.neg (by omega) ?_ | with_reducible refine BrG.pos rfl ?_ | refine BrG.pos (by assumption) ?_ | refine BrG.neg (by assumption) ?_ | refine BrG.pos (by decide) ?_ | refine BrG.neg (by decide) ?_) | refine Chk.mk (ptr_ok tblOk rfl rfl) ?_ | refine Chk.mk (by decide) ?_ | refine hS.ld rfl ?_ | refine hS.ldn rfl ?_ | (refine hS.st rfl rfl ?_; intro _ hS))
      refine ⟨⟨i + 1, ⟨ir (ir t1), ie t1 || ie (ir t1)⟩, l ++ [(iv t1, iv (ir t1))], a2, c2⟩, ⟨rfl, rfl, rfl, rfl, rfl, rfl, rfl, rfl, trivial⟩, ⟨⟨by simp only; omega, hx, by simp only [List.length_append, List.length_singleton]; omega⟩, L2, hv, St.tl1 hS⟩, by simp only; omega⟩
    · have hfin : l.length + t1.length ≤ t.length + 1 := by unfold bit at hsz; split at hsz <;> omega
      rcases hend with rfl | rfl
      · repeat (first | refine SemW.run tblOk ?_ | refine IntG.nw (by omega) ?_ | refine IntG.nu8 (by omega) ?_ | refine IntG.nu32 (by omega) ?_ | refine IntG.nu64 (by omega) ?_ | refine IntG.wr' rfl ?_ | refine Chk.mk (by omega) ?_ | (refine BrG.id ?_; first | with_reducible refine BrG.t ?_ | with_reducible refine BrG.f ?_ | with_reducible refine BrG.notG ?_ | with_reducible refine BrG.nn ?_ | with_reducible refine BrG.ns ?_ | refine BrG.pos (by omega) ?_ | refine BrG.neg (by omega) ?_ | with_reducible refine BrG.pos rfl ?_ | refine BrG.pos (by assumption) ?_ | refine BrG.neg (by assumption) ?_ | refine BrG.pos (by decide) ?_ | refine BrG.neg (by decide) ?_) | refine Chk.mk (ptr_ok tblOk rfl rfl) ?_ | refine Chk.mk (by decide) ?_)
        exact ⟨rfl, ⟨nv t, ⟨t1, bd⟩, l, a, c⟩, ⟨rfl, rfl, rfl, rfl, rfl, rfl, trivial⟩, ⟨rfl, hfin⟩, L, hv, hS⟩
      · have he1 : errN true = 1 := rfl
        rw [he1]
        by_cases hin : i < nv t
        · repeat (first | refine SemW.run tblOk ?_ | refine IntG.nw (by omega) ?_ | refine IntG.nu8 (by omega) ?_ | refine IntG.nu32 (by omega) ?_ | refine IntG.nu64 (by omega) ?_ | refine IntG.wr' rfl ?_ | refine Chk.mk (by omega) ?_ | (refine BrG.id ?_; first | with_reducible refine BrG.t ?_ | with_reducible refine BrG.f ?_ | with_reducible refine BrG.notG ?_ | with_reducible refine BrG.nn ?_ | with_reducible refine BrG.ns ?_ | refine BrG.pos (by omega) ?_ | refine BrG.neg (by omega) ?_ | with_reducible refine BrG.pos rfl ?_ | refine BrG.pos (by assumption) ?_ | refine BrG.neg (by assumption) ?_ | refine BrG.pos (by decide) ?_ | refine BrG.neg (by decide) ?_) | refine Chk.mk (ptr_ok tblOk rfl rfl) ?_ | refine Chk.mk (by decide) ?_)
          exact ⟨rfl, ⟨nv t, ⟨t1, true⟩, l, a, c⟩, ⟨rfl, rfl, rfl, rfl, rfl, rfl, trivial⟩, ⟨rfl, hfin⟩, L, hv, hS⟩
        · repeat (first | refine SemW.run tblOk ?_ | refine IntG.nw (by omega) ?_ | refine IntG.nu8 (by omega) ?_ | refine IntG.nu32 (by omega) ?_ | refine IntG.nu64 (by omega) ?_ | refine IntG.wr' rfl ?_ | refine Chk.mk (by omega) ?_ | (refine BrG.id ?_; first | with_reducible refine BrG.t ?_ | with_reducible refine BrG.f ?_ | with_reducible refine BrG.notG ?_ | with_reducible refine BrG.nn ?_ | with_reducible refine BrG.ns ?_ | refine BrG.pos (by omega) ?_ | refine BrG.neg (by omega) ?_ | with_reducible refine BrG.pos rfl ?_ | refine BrG.pos (by assumption) ?_ | refine BrG.neg (by assumption) ?_ | refine BrG.pos (by decide) ?_ | refine BrG.neg (by decide) ?_) | refine Chk.mk (ptr_ok tblOk rfl rfl) ?_ | refine Chk.mk (by decide) ?_)
          exact ⟨rfl, ⟨nv t, ⟨t1, true⟩, l, a, c⟩, ⟨rfl, rfl, rfl, rfl, rfl, rfl, trivial⟩, ⟨rfl, hfin⟩, L, hv, hS⟩
  clear hS hj hS'
  rintro ⟨_, s1, l1, fa, fc⟩ w5 ⟨⟨h1, hl1⟩, La, hfv, hS⟩
  simp only at h1 hl1 hfv hS ⊢
  have hmx1 := mx0 s1.bad
  unfold mxI at hmx1
  have hS : St w [] ((b5, .cells ⟨[.slice fa l1.length fc, .slice none 0 0, .int .i64 0, .int .i64 0, .int .i64 0]⟩ T_api_Edit (0, 0)) :: ([(rb, .cells ⟨[Str s1.t]⟩ T_tarmacref01_Reader (0, 0))] ++ ([] ++ (La ++ [(b2, .cells ⟨[.slice none 0 0, .slice none 0 0, .int .i64 0, .int .i64 0, .int .i64 0]⟩ T_api_Edit (0, 0))])))) w5 := hS
  repeat (first | refine SemW.run tblOk ?_ | refine IntG.nw (by omega) ?_ | refine IntG.nu8 (by omega) ?_ | refine IntG.nu32 (by omega) ?_ | refine IntG.nu64 (by omega) ?_ | refine IntG.wr' rfl ?_ | refine Chk.mk (by omega) ?_ | (refine BrG.id ?_; first | with_reducible refine BrG.t ?_ | with_reducible refine BrG.f ?_ | with_reducible refine BrG.notG ?_ | with_reducible refine BrG.nn ?_ | with_reducible refine BrG.ns ?_ | refine BrG.pos (by omega) ?_ | refine BrG.neg (by omega) ?_ | with_reducible refine BrG.pos rfl ?_ | refine BrG.pos (by assumption) ?_ | refine BrG.neg (by assumption) ?_ | refine BrG.pos (by decide) ?_ | refine BrG.neg (by decide) ?_) | refine Chk.mk (ptr_ok tblOk rfl rfl) ?_ | refine Chk.mk (by decide) ?_ | refine hS.ld rfl ?_ | refine hS.ldn rfl ?_ | (refine hS.st rfl rfl ?_; intro _ hS))
  rw [hmx1]
  repeat (first | refine SemW.run tblOk ?_ | refine IntG.nw (by omega) ?_ | refine IntG.nu8 (by omega) ?_ | refine IntG.nu32 (by omega) ?_ | refine IntG.nu64 (by omega) ?_ | refine IntG.wr' rfl ?_ | refine Chk.mk (by omega) ?_ | (refine BrG.id ?_; first | with_reducible refine BrG.t ?_ | with_reducible refine BrG.f ?_ | with_reducible refine BrG.notG ?_ | with_reducible refine BrG.nn ?_ | with_reducible refine BrG.ns ?_ | refine BrG.pos (by omega) ?_ | refine BrG.neg (by omega) ?_ | with_reducible refine BrG.pos rfl ?_ | refine BrG.pos (by assumption) ?_ | refine BrG.neg (by assumption) ?_ | refine BrG.pos (by decide) ?_ | refine BrG.neg (by decide) ?_) | refine Chk.mk (ptr_ok tblOk rfl rfl) ?_ | refine Chk.mk (by decide) ?_ | refine hS.ld rfl ?_ | refine hS.ldn rfl ?_ | (refine hS.st rfl rfl ?_; intro _ hS))
  have hnl1 : (nr s1.t).length ≤ s1.t.length := numO_len s1.t
  have hnlt1 : nv s1.t < 18446744073709551616 := numO_lt s1.t
  refine Cl.mono (RNumRaw_spec (t := s1.t) (hS.part (L := [(rb, .cells ⟨[Str s1.t]⟩ T_tarmacref01_Reader (0, 0))])) (by omega)) ?_
  rintro _ w6 ⟨rfl, hS'⟩
  have hS := hS.call (L := [(rb, .cells ⟨[Str s1.t]⟩ T_tarmacref01_Reader (0, 0))]) hS'
  have hj : (0 ≤ nv s1.t ∧ rdI (nv s1.t - 0) (⟨nr s1.t, ne11 s1.t⟩, []) = rdI (nv s1.t) (⟨nr s1.t, ne11 s1.t⟩, []) ∧ ([] : List Int).length + (nr s1.t).length ≤ s1.t.length + bit (ne11 s1.t)) := ⟨Nat.zero_le _, rfl, by simp only [List.length_nil]; omega⟩
  repeat (first | refine SemW.run tblOk ?_ | refine IntG.nw (by omega) ?_ | refine IntG.nu8 (by omega) ?_ | refine IntG.nu32 (by omega) ?_ | refine IntG.nu64 (by omega) ?_ | refine IntG.wr' rfl ?_ | refine Chk.mk (by omega) ?_ | (refine BrG.id ?_; first | with_reducible refine BrG.t ?_ | with_reducible refine BrG.f ?_ | with_reducible refine BrG.notG ?_ | with_reducible refine BrG.nn ?_ | with_reducible refine BrG.ns ?_ | refine BrG.pos (by omega) ?_ | refine BrG.neg (by omega) ?_ | with_reducible refine BrG.pos rfl ?_ | refine BrG.pos (by assumption) ?_ | refine BrG.neg (by assumption) ?_ | refine BrG.pos (by decide) ?_ | refine BrG.neg (by decide) ?_) | refine Chk.mk (ptr_ok tblOk rfl rfl) ?_ | refine Chk.mk (by decide) ?_ | refine hS.ld rfl ?_ | refine hS.ldn rfl ?_ | (refine hS.st rfl rfl ?_; intro _ hS))
  refine StopW.join (fun z : EII => [(0, Str t), (2, ptr b2), (4, ptr rb), (5, ptr b5), (6, .int .i64 (errN s1.bad)), (8, .int .i64 (errN z.s.bad))]) (fun z w' => ((z.s, z.l) = rdI (nv s1.t) (⟨nr s1.t, ne11 s1.t⟩, []) ∧ z.l.length + z.s.t.length ≤ s1.t.length + 1) ∧ ∃ L, Vec T_int 1 z.a z.l.length z.c (z.l.map intV) L ∧ St w [] ((b5, .cells ⟨[.slice fa l1.length fc, .slice z.a z.l.length z.c, .int .i64 0, .int .i64 0, .int .i64 0]⟩ T_api_Edit (0, 0)) :: ([(rb, .cells ⟨[Str z.s.t]⟩ T_tarmacref01_Reader (0, 0))] ++ (L ++ (La ++ [(b2, .cells ⟨[.slice none 0 0, .slice none 0 0, .int .i64 0, .int .i64 0, .int .i64 0]⟩ T_api_Edit (0, 0))])))) w') ?_ ?_
  · refine SemW.loop (fun z : EII => [(0, Str t), (2, ptr b2), (4, ptr rb), (5, ptr b5), (6, .int .i64 (errN s1.bad)), (7, .int .u64 (nv s1.t)), (8, .int .i64 (errN z.s.bad)), (14, .int .u64 z.i)])
      (fun z w' => (z.i ≤ nv s1.t ∧ rdI (nv s1.t - z.i) (z.s, z.l) = rdI (nv s1.t) (⟨nr s1.t, ne11 s1.t⟩, []) ∧ z.l.length + z.s.t.length ≤ s1.t.length + bit z.s.bad) ∧ ∃ L, Vec T_int 1 z.a z.l.length z.c (z.l.map intV) L ∧ St w [] ((b5, .cells ⟨[.slice fa l1.length fc, .slice z.a z.l.length z.c, .int .i64 0, .int .i64 0, .int .i64 0]⟩ T_api_Edit (0, 0)) :: ([(rb, .cells ⟨[Str z.s.t]⟩ T_tarmacref01_Reader (0, 0))] ++ (L ++ (La ++ [(b2, .cells ⟨[.slice none 0 0, .slice none 0 0, .int .i64 0, .int .i64 0, .int .i64 0]⟩ T_api_Edit (0, 0))])))) w') (fun z => nv s1.t - z.i) ⟨0, ⟨nr s1.t, ne11 s1.t⟩, [], none, 0⟩
      ⟨rfl, rfl, rfl, rfl, rfl, rfl, rfl, rfl, trivial⟩ ⟨hj, [], Vec.nil, hS⟩ ?_
    clear hS hj hS'
    generalize hX : rdI (nv s1.t) (⟨nr s1.t, ne11 s1.t⟩, []) = X
    rintro ⟨i, ⟨t1, bd⟩, l, a, c⟩ w5 ⟨⟨hi, hx, hsz⟩, L, hv, hS⟩
    simp only at hi hx hsz hv hS ⊢
    have hgo : i < nv s1.t ∧ bd = false ∨ (⟨t1, bd⟩, l) = X ∧ (i = nv s1.t ∨ bd = true) := by
      by_cases hin : i < nv s1.t
      · cases bd with
        | true => rw [rdI_stop _ _ _ rfl] at hx; exact .inr ⟨hx, .inr rfl⟩
        | false => exact .inl ⟨hin, rfl⟩
      · rw [show nv s1.t - i = 0 by omega] at hx; exact .inr ⟨hx, .inl (by omega)⟩
    rcases hgo with ⟨hin, rfl⟩ | ⟨rfl, hend⟩
    · have hb0 : bit false = 0 := rfl
      have he0 : errN false = 0 := rfl
      rw [show nv s1.t - i = (nv s1.t - (i + 1)) + 1 by omega, rdI_step _ _ _ rfl, rbInt_raw, Bool.false_or] at hx
      have hsl := rbInt_len (s := ⟨t1, false⟩) rfl
      rw [rbInt_raw, Bool.false_or] at hsl
      simp only at hsl hx
      rw [he0]
      repeat (first | refine SemW.run tblOk ?_ | refine IntG.nw (by omega) ?_ | refine IntG.nu8 (by omega) ?_ | refine IntG.nu32 (by omega) ?_ | refine IntG.nu64 (by omega) ?_ | refine IntG.wr' rfl ?_ | refine Chk.mk (by omega) ?_ | (refine BrG.id ?_; first | with_reducible refine BrG.t ?_ | with_reducible refine BrG.f ?_ | with_reducible refine BrG.notG ?_ | with_reducible refine BrG.nn ?_ | with_reducible refine BrG.ns ?_ | refine BrG.pos (by omega) ?_ | refine BrG.neg (by omega) ?_ | with_reducible refine BrG.pos rfl ?_ | refine BrG.pos (by assumption) ?_ | refine BrG.neg (by assumption) ?_ | refine BrG.pos (by decide) ?_ | refine BrG.neg (by decide) ?_) | refine Chk.mk (ptr_ok tblOk rfl rfl) ?_ | refine Chk.mk (by decide) ?_ | refine hS.ld rfl ?_ | refine hS.ldn rfl ?_ | (refine hS.st rfl rfl ?_; intro _ hS))
      refine Cl.mono (RIntRaw_spec (t := t1) (hS.part (L := [(rb, .cells ⟨[Str t1]⟩ T_tarmacref01_Reader (0, 0))])) (by omega)) ?_
      rintro _ w6 ⟨rfl, hS'⟩
      have hS := hS.call (L := [(rb, .cells ⟨[Str t1]⟩ T_tarmacref01_Reader (0, 0))]) hS'
      repeat (first | refine SemW.run tblOk ?_ | refine IntG.nw (by omega) ?_ | refine IntG.nu8 (by omega) ?_ | refine IntG.nu32 (by omega) ?_ | refine IntG.nu64 (by omega) ?_ | refine IntG.wr' rfl ?_ | refine Chk.mk (by omega) ?_ | (refine BrG.id ?_; first | with_reducible refine BrG.t ?_ | with_reducible refine BrG.f ?_ | with_reducible refine BrG.notG ?_ | with_reducible refine BrG.nn ?_ | with_reducible refine BrG.ns ?_ | refine BrG.pos (by omega) ?_ | refine BrG.neg (by omega) ?_ | with_reducible refine BrG.pos rfl ?_ | refine BrG.pos (by assumption) ?_ | refine BrG.neg (by assumption) ?_ | refine BrG.pos (by decide) ?_ | refine BrG.neg (by decide) ?_) | refine Chk.mk (ptr_ok tblOk rfl rfl) ?_ | refine Chk.mk (by decide) ?_ | refine hS.ld rfl ?_ | refine hS.ldn rfl ?_ | (refine hS.st rfl rfl ?_; intro _ hS))
      refine hS.al ?_
      intro r w8 _ hS
      repeat (first | refine SemW.run tblOk ?_ | refine IntG.nw (by omega) ?_ | refine IntG.nu8 (by omega) ?_ | refine IntG.nu32 (by omega) ?_ | refine IntG.nu64 (by omega) ?_ | refine IntG.wr' rfl ?_ | refine Chk.mk (by omega) ?_ | (refine BrG.id ?_; first | with_reducible refine BrG.t ?_ | with_reducible refine BrG.f ?_ | with_reducible refine BrG.notG ?_ | with_reducible refine BrG.nn ?_ | with_reducible refine BrG.ns ?_ | refine BrG.pos (by omega) ?_ | refine BrG.neg (by omega) ?_ | with_reducible refine BrG.pos rfl ?_ | refine BrG.pos (by assumption) ?_ | refine BrG.neg (by assumption) ?_ | refine BrG.pos (by decide) ?_ | refine BrG.neg (by decide) ?_) | refine Chk.mk (ptr_ok tblOk rfl rfl) ?_ | refine Chk.mk (by decide) ?_ | refine hS.ld rfl ?_ | refine hS.ldn rfl ?_ | (refine hS.st rfl rfl ?_; intro _ hS))
      refine St.app (sz := 1) (m := 1) tblOk rfl rfl rfl rfl hS hv (news := [intV (iv t1)]) rfl (by have := hS.arr (b := r) (T' := []) (by simp); exact this) rfl (by show (_ + _) * 8 ≤ _; omega) (by omega) ?_
      intro a2 c2 L2 w9 hv hS
      have e9 : l.map intV ++ [intV (iv t1)] = (l ++ [iv t1]).map intV := by simp
      have e8 : l.length + 1 = (l ++ [iv t1]).length := by simp
      rw [e9, e8] at hv
      rw [e8]
      repeat (first | refine SemW.run tblOk ?_ | refine IntG.nw (by omega) ?_ | refine IntG.nu8 (by omega) ?_ | refine IntG.nu32 (by omega) ?_ | refine IntG.nu64 (by omega) ?_ | refine IntG.wr' rfl ?_ | refine Chk.mk (by omega) ?_ | (refine BrG.id ?_; first | with_reducible refine BrG.t ?_ | with_reducible refine BrG.f ?_ | with_reducible refine BrG.notG ?_ | with_reducible refine BrG.nn ?_ | with_reducible refine BrG.ns ?_ | refine BrG.pos (by omega) ?_ | refine BrG.neg (by omega) ?_ | with_reducible refine BrG.pos rfl ?_ | refine BrG.pos (by assumption) ?_ | refine BrG.neg (by assumption) ?_ | refine BrG.pos (by decide) ?_ | refine BrG.neg (by decide) ?_) | refine Chk.mk (ptr_ok tblOk rfl rfl) ?_ | refine Chk.mk (by decide) ?_ | refine hS.ld rfl ?_ | refine hS.ldn rfl ?_ | (refine hS.st rfl rfl ?_; intro _ hS))
      refine ⟨⟨i + 1, ⟨ir t1, ie t1⟩, l ++ [iv t1], a2, c2⟩, ⟨rfl, rfl, rfl, rfl, rfl, rfl, rfl, rfl, trivial⟩, ⟨⟨by simp only; omega, hx, by simp only [List.length_append, List.length_singleton]; omega⟩, L2, hv, St.tl1 hS⟩, by simp only; omega⟩
    · have hfin : l.length + t1.length ≤ s1.t.length + 1 := by unfold bit at hsz; split at hsz <;> omega
      rcases hend with rfl | rfl
      · repeat (first | refine SemW.run tblOk ?_ | refine IntG.nw (by omega) ?_ | refine IntG.nu8 (by omega) ?_ | refine IntG.nu32 (by omega) ?_ | refine IntG.nu64 (by omega) ?_ | refine IntG.wr' rfl ?_ | refine Chk.mk (by omega) ?_ | (refine BrG.id ?_; first | with_reducible refine BrG.t ?_ | with_reducible refine BrG.f ?_ | with_reducible refine BrG.notG ?_ | with_reducible refine BrG.nn ?_ | with_reducible refine BrG.ns ?_ | refine BrG.pos (by omega) ?_ | refine BrG.neg (by omega) ?_ | with_reducible refine BrG.pos rfl ?_ | refine BrG.pos (by assumption) ?_ | refine BrG.neg (by assumption) ?_ | refine BrG.pos (by decide) ?_ | refine BrG.neg (by decide) ?_) | refine Chk.mk (ptr_ok tblOk rfl rfl) ?_ | refine Chk.mk (by decide) ?_)
        exact ⟨rfl, ⟨nv s1.t, ⟨t1, bd⟩, l, a, c⟩, ⟨rfl, rfl, rfl, rfl, rfl, rfl, trivial⟩, ⟨rfl, hfin⟩, L, hv, hS⟩
      · have he1 : errN true = 1 := rfl
        rw [he1]
        by_cases hin : i < nv s1.t
        · repeat (first | refine SemW.run tblOk ?_ | refine IntG.nw (by omega) ?_ | refine IntG.nu8 (by omega) ?_ | refine IntG.nu32 (by omega) ?_ | refine IntG.nu64 (by omega) ?_ | refine IntG.wr' rfl ?_ | refine Chk.mk (by omega) ?_ | (refine BrG.id ?_; first | with_reducible refine BrG.t ?_ | with_reducible refine BrG.f ?_ | with_reducible refine BrG.notG ?_ | with_reducible refine BrG.nn ?_ | with_reducible refine BrG.ns ?_ | refine BrG.pos (by omega) ?_ | refine BrG.neg (by omega) ?_ | with_reducible refine BrG.pos rfl ?_ | refine BrG.pos (by assumption) ?_ | refine BrG.neg (by assumption) ?_ | refine BrG.pos (by decide) ?_ | refine BrG.neg (by decide) ?_) | refine Chk.mk (ptr_ok tblOk rfl rfl) ?_ | refine Chk.mk (by decide) ?_)
          exact ⟨rfl, ⟨nv s1.t, ⟨t1, true⟩, l, a, c⟩, ⟨rfl, rfl, rfl, rfl, rfl, rfl, trivial⟩, ⟨rfl, hfin⟩, L, hv, hS⟩
        · repeat (first | refine SemW.run tblOk ?_ | refine IntG.nw (by omega) ?_ | refine IntG.nu8 (by omega) ?_ | refine IntG.nu32 (by omega) ?_ | refine IntG.nu64 (by omega) ?_ | refine IntG.wr' rfl ?_ | refine Chk.mk (by omega) ?_ | (refine BrG.id ?_; first | with_reducible refine BrG.t ?_ | with_reducible refine BrG.f ?_ | with_reducible refine BrG.notG ?_ | with_reducible refine BrG.nn ?_ | with_reducible refine BrG.ns ?_ | refine BrG.pos (by omega) ?_ | refine BrG.neg (by omega) ?_ | with_reducible refine BrG.pos rfl ?_ | refine BrG.pos (by assumption) ?_ | refine BrG.neg (by assumption) ?_ | refine BrG.pos (by decide) ?_ | refine BrG.neg (by decide) ?_) | refine Chk.mk (ptr_ok tblOk rfl rfl) ?_ | refine Chk.mk (by decide) ?_)
          exact ⟨rfl, ⟨nv s1.t, ⟨t1, true⟩, l, a, c⟩, ⟨rfl, rfl, rfl, rfl, rfl, rfl, trivial⟩, ⟨rfl, hfin⟩, L, hv, hS⟩
  clear hS hj hS'
  rintro ⟨_, s2, l2, ia, ic⟩ w6 ⟨⟨h2, hl2⟩, Lb, hiv, hS⟩
  simp only at h2 hl2 hiv hS ⊢
  have hR : RefRead t s1 s2 l1 l2 := ⟨h1.symm, h2.symm⟩
  have hlaw := hR.law (by omega)
  have hok := hR.ok
  have ho1 := iv_ok s2.t
  have ho2 := iv_ok (ir s2.t)
  have ho3 := iv_ok (ir (ir s2.t))
  have hr1 : (ir s2.t).length ≤ s2.t.length := intO_len s2.t
  have hr2 : (ir (ir s2.t)).length ≤ (ir s2.t).length := intO_len (ir s2.t)
  rw [hlaw]
  clear hlaw h1 h2
  have hE : EditV fa ia fc ic (refE s2 l1 l2) La Lb := ⟨hfv, hiv, by show l1.length + l2.length ≤ _; omega, ⟨ho1.1, ho1.2, ho2.1, ho2.2, ho3.1, ho3.2⟩⟩
  repeat (first | refine SemW.run tblOk ?_ | refine IntG.nw (by omega) ?_ | refine IntG.nu8 (by omega) ?_ | refine IntG.nu32 (by omega) ?_ | refine IntG.nu64 (by omega) ?_ | refine IntG.wr' rfl ?_ | refine Chk.mk (by omega) ?_ | (refine BrG.id ?_; first | with_reducible refine BrG.t ?_ | with_reducible refine BrG.f ?_ | with_reducible refine BrG.notG ?_ | with_reducible refine BrG.nn ?_ | with_reducible refine BrG.ns ?_ | refine BrG.pos (by omega) ?_ | refine BrG.neg (by omega) ?_ | with_reducible refine BrG.pos rfl ?_ | refine BrG.pos (by assumption) ?_ | refine BrG.neg (by assumption) ?_ | refine BrG.pos (by decide) ?_ | refine BrG.neg (by decide) ?_) | refine Chk.mk (ptr_ok tblOk rfl rfl) ?_ | refine Chk.mk (by decide) ?_ | refine hS.ld rfl ?_ | refine hS.ldn rfl ?_ | (refine hS.st rfl rfl ?_; intro _ hS))
  refine Cl.mono (RIntRaw_spec (t := s2.t) (hS.part (L := [(rb, .cells ⟨[Str s2.t]⟩ T_tarmacref01_Reader (0, 0))])) (by omega)) ?_
  rintro _ w7 ⟨rfl, hS'⟩
  have hS := hS.call (L := [(rb, .cells ⟨[Str s2.t]⟩ T_tarmacref01_Reader (0, 0))]) hS'
  repeat (first | refine SemW.run tblOk ?_ | refine IntG.nw (by omega) ?_ | refine IntG.nu8 (by omega) ?_ | refine IntG.nu32 (by omega) ?_ | refine IntG.nu64 (by omega) ?_ | refine IntG.wr' rfl ?_ | refine Chk.mk (by omega) ?_ | (refine BrG.id ?_; first | with_reducible refine BrG.t ?_ | with_reducible refine BrG.f ?_ | with_reducible refine BrG.notG ?_ | with_reducible refine BrG.nn ?_ | with_reducible refine BrG.ns ?_ | refine BrG.pos (by omega) ?_ | refine BrG.neg (by omega) ?_ | with_reducible refine BrG.pos rfl ?_ | refine BrG.pos (by assumption) ?_ | refine BrG.neg (by assumption) ?_ | refine BrG.pos (by decide) ?_ | refine BrG.neg (by decide) ?_) | refine Chk.mk (ptr_ok tblOk rfl rfl) ?_ | refine Chk.mk (by decide) ?_ | refine hS.ld rfl ?_ | refine hS.ldn rfl ?_ | (refine hS.st rfl rfl ?_; intro _ hS))
  refine Cl.mono (RIntRaw_spec (t := (ir s2.t)) (hS.part (L := [(rb, .cells ⟨[Str (ir s2.t)]⟩ T_tarmacref01_Reader (0, 0))])) (by omega)) ?_
  rintro _ w8 ⟨rfl, hS'⟩
  have hS := hS.call (L := [(rb, .cells ⟨[Str (ir s2.t)]⟩ T_tarmacref01_Reader (0, 0))]) hS'
  repeat (first | refine SemW.run tblOk ?_ | refine IntG.nw (by omega) ?_ | refine IntG.nu8 (by omega) ?_ | refine IntG.nu32 (by omega) ?_ | refine IntG.nu64 (by omega) ?_ | refine IntG.wr' rfl ?_ | refine Chk.mk (by omega) ?_ | (refine BrG.id ?_; first | with_reducible refine BrG.t ?_ | with_reducible refine BrG.f ?_ | with_reducible refine BrG.notG ?_ | with_reducible refine BrG.nn ?_ | with_reducible refine BrG.ns ?_ | refine BrG.pos (by omega) ?_ | refine BrG.neg (by omega) ?_ | with_reducible refine BrG.pos rfl ?_ | refine BrG.pos (by assumption) ?_ | refine BrG.neg (by assumption) ?_ | refine BrG.pos (by decide) ?_ | refine BrG.neg (by decide) ?_) | refine Chk.mk (ptr_ok tblOk rfl rfl) ?_ | refine Chk.mk (by decide) ?_ | refine hS.ld rfl ?_ | refine hS.ldn rfl ?_ | (refine hS.st rfl rfl ?_; intro _ hS))
  refine Cl.mono (RIntRaw_spec (t := (ir (ir s2.t))) (hS.part (L := [(rb, .cells ⟨[Str (ir (ir s2.t))]⟩ T_tarmacref01_Reader (0, 0))])) (by omega)) ?_
  rintro _ w9 ⟨rfl, hS'⟩
  have hS := hS.call (L := [(rb, .cells ⟨[Str (ir (ir s2.t))]⟩ T_tarmacref01_Reader (0, 0))]) hS'
  repeat (first | refine SemW.run tblOk ?_ | refine IntG.nw (by omega) ?_ | refine IntG.nu8 (by omega) ?_ | refine IntG.nu32 (by omega) ?_ | refine IntG.nu64 (by omega) ?_ | refine IntG.wr' rfl ?_ | refine Chk.mk (by omega) ?_ | (refine BrG.id ?_; first | with_reducible refine BrG.t ?_ | with_reducible refine BrG.f ?_ | with_reducible refine BrG.notG ?_ | with_reducible refine BrG.nn ?_ | with_reducible refine BrG.ns ?_ | refine BrG.pos (by omega) ?_ | refine BrG.neg (by omega) ?_ | with_reducible refine BrG.pos rfl ?_ | refine BrG.pos (by assumption) ?_ | refine BrG.neg (by assumption) ?_ | refine BrG.pos (by decide) ?_ | refine BrG.neg (by decide) ?_) | refine Chk.mk (ptr_ok tblOk rfl rfl) ?_ | refine Chk.mk (by decide) ?_ | refine hS.ld rfl ?_ | refine hS.ldn rfl ?_ | (refine hS.st rfl rfl ?_; intro _ hS))
  refine Cl.mono (Encode11_spec (hE.at hS) hok) ?_
  rintro _ w10 ⟨rfl, hS'⟩
  have hS := hS.call0 hS'
  have hm : mxI (mxI (mxI (mxI (errN s1.bad) (errN s2.bad)) (errN (ie s2.t))) (errN (ie (ir s2.t)))) (errN (ie (ir (ir s2.t)))) = errN (refBad s1 s2) := by
    rw [errN_or, errN_or, errN_or, errN_or]; rfl
  have hm0 : mxI (mxI (mxI (mxI (mxI (errN s1.bad) (errN s2.bad)) (errN (ie s2.t))) (errN (ie (ir s2.t)))) (errN (ie (ir (ir s2.t))))) 0 = errN (refBad s1 s2) := by
    rw [hm]; cases refBad s1 s2 <;> rfl
  have hm1 : mxI (mxI (mxI (mxI (mxI (errN s1.bad) (errN s2.bad)) (errN (ie s2.t))) (errN (ie (ir s2.t)))) (errN (ie (ir (ir s2.t))))) 11 = 11 := by
    rw [hm]; cases refBad s1 s2 <;> rfl
  cases hr : rightE (refE s2 l1 l2) with
  | false =>
    have hev : encV (refE s2 l1 l2) = .tuple ⟨[Str [], .int .i64 11]⟩ := by unfold encV; rw [hr]; rfl
    rw [hev, if_neg (by rintro ⟨-, h, -⟩; cases h)]
    repeat (first | refine SemW.run tblOk ?_ | refine IntG.nw (by omega) ?_ | refine IntG.nu8 (by omega) ?_ | refine IntG.nu32 (by omega) ?_ | refine IntG.nu64 (by omega) ?_ | refine IntG.wr' rfl ?_ | refine Chk.mk (by omega) ?_ | (refine BrG.id ?_; first | with_reducible refine BrG.t ?_ | with_reducible refine BrG.f ?_ | with_reducible refine BrG.notG ?_ | with_reducible refine BrG.nn ?_ | with_reducible refine BrG.ns ?_ | refine BrG.pos (by omega) ?_ | refine BrG.neg (by omega) ?_ | with_reducible refine BrG.pos rfl ?_ | refine BrG.pos (by assumption) ?_ | refine BrG.neg (by assumption) ?_ | refine BrG.pos (by decide) ?_ | refine BrG.neg (by decide) ?_) | refine Chk.mk (ptr_ok tblOk rfl rfl) ?_ | refine Chk.mk (by decide) ?_ | refine hS.ld rfl ?_ | refine hS.ldn rfl ?_ | (refine hS.st rfl rfl ?_; intro _ hS))
    exact ⟨rfl, hS.nil⟩
  | true =>
    have hev : encV (refE s2 l1 l2) = .tuple ⟨[Str (editB (refE s2 l1 l2)), .int .i64 0]⟩ := by unfold encV; rw [hr]; rfl
    rw [hev]
    clear hev
    cases hb : refBad s1 s2 with
    | true =>
      rw [if_neg (by rintro ⟨h, -⟩; cases h)]
      rw [hb] at hm0
      have he1 : errN true = 1 := rfl
      repeat (first | refine SemW.run tblOk ?_ | refine IntG.nw (by omega) ?_ | refine IntG.nu8 (by omega) ?_ | refine IntG.nu32 (by omega) ?_ | refine IntG.nu64 (by omega) ?_ | refine IntG.wr' rfl ?_ | refine Chk.mk (by omega) ?_ | (refine BrG.id ?_; first | with_reducible refine BrG.t ?_ | with_reducible refine BrG.f ?_ | with_reducible refine BrG.notG ?_ | with_reducible refine BrG.nn ?_ | with_reducible refine BrG.ns ?_ | refine BrG.pos (by omega) ?_ | refine BrG.neg (by omega) ?_ | with_reducible refine BrG.pos rfl ?_ | refine BrG.pos (by assumption) ?_ | refine BrG.neg (by assumption) ?_ | refine BrG.pos (by decide) ?_ | refine BrG.neg (by decide) ?_) | refine Chk.mk (ptr_ok tblOk rfl rfl) ?_ | refine Chk.mk (by decide) ?_ | refine hS.ld rfl ?_ | refine hS.ldn rfl ?_ | (refine hS.st rfl rfl ?_; intro _ hS))
      exact ⟨rfl, hS.nil⟩
    | false =>
      rw [hb] at hm0
      have he0 : errN false = 0 := rfl
      by_cases hed : editB (refE s2 l1 l2) = t
      · rw [if_pos ⟨rfl, rfl, hed⟩]
        repeat (first | refine SemW.run tblOk ?_ | refine IntG.nw (by omega) ?_ | refine IntG.nu8 (by omega) ?_ | refine IntG.nu32 (by omega) ?_ | refine IntG.nu64 (by omega) ?_ | refine IntG.wr' rfl ?_ | refine Chk.mk (by omega) ?_ | (refine BrG.id ?_; first | with_reducible refine BrG.t ?_ | with_reducible refine BrG.f ?_ | with_reducible refine BrG.notG ?_ | with_reducible refine BrG.nn ?_ | with_reducible refine BrG.ns ?_ | refine BrG.pos (by omega) ?_ | refine BrG.neg (by omega) ?_ | with_reducible refine BrG.pos rfl ?_ | refine BrG.pos (by assumption) ?_ | refine BrG.neg (by assumption) ?_ | refine BrG.pos (by decide) ?_ | refine BrG.neg (by decide) ?_) | refine Chk.mk (ptr_ok tblOk rfl rfl) ?_ | refine Chk.mk (by decide) ?_ | refine hS.ld rfl ?_ | refine hS.ldn rfl ?_ | (refine hS.st rfl rfl ?_; intro _ hS))
        exact ⟨fa, ia, fc, ic, La, Lb, rfl, hE, ((St.tl2 hS).sub (List.Sublist.append_left (List.sublist_append_left _ _) Lb)).perm List.perm_append_comm⟩
      · rw [if_neg (fun h => hed h.2.2)]
        repeat (first | refine SemW.run tblOk ?_ | refine IntG.nw (by omega) ?_ | refine IntG.nu8 (by omega) ?_ | refine IntG.nu32 (by omega) ?_ | refine IntG.nu64 (by omega) ?_ | refine IntG.wr' rfl ?_ | refine Chk.mk (by omega) ?_ | (refine BrG.id ?_; first | with_reducible refine BrG.t ?_ | with_reducible refine BrG.f ?_ | with_reducible refine BrG.notG ?_ | with_reducible refine BrG.nn ?_ | with_reducible refine BrG.ns ?_ | refine BrG.pos (by omega) ?_ | refine BrG.neg (by omega) ?_ | with_reducible refine BrG.pos rfl ?_ | refine BrG.pos (by assumption) ?_ | refine BrG.neg (by assumption) ?_ | refine BrG.pos (by decide) ?_ | refine BrG.neg (by decide) ?_) | refine Chk.mk (ptr_ok tblOk rfl rfl) ?_ | refine Chk.mk (by decide) ?_ | refine hS.ld rfl ?_ | refine hS.ldn rfl ?_ | (refine hS.st rfl rfl ?_; intro _ hS))
        exact ⟨rfl, hS.nil⟩
end Go.Proofs.YtkncpdehgcldbaaDoor
