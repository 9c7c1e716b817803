/- manifest.Decode. -/
import Derived.Test.YtkncpdehgcldbaaDoorDecI11
namespace Go.Proofs.YtkncpdehgcldbaaDoor
open Go Go.Eng Go.Proofs Go.Srt
theorem perm5 {α : Type} (a b c d e : α) : [a, b, c, d, e].Perm [c, d, b, a, e] := by
  have h1 : ([a, b] ++ [c, d]).Perm ([c, d] ++ [a, b]) := List.perm_append_comm
  have h2 : ([c, d] ++ [a, b]).Perm ([c, d] ++ [b, a]) := List.Perm.append_left _ (List.Perm.swap _ _ _)
  exact (h1.trans h2).append_right [e]
theorem Holds.tl1 {p : Nat × Obj} {R : Heap} {w : World} (h : Holds (p :: R) w) : Holds R w := ((St.enter h).sub (List.sublist_cons_self _ _)).holds
def zeroE : EM := ⟨[], [], 0, 0, 0⟩
/-- An edit whose lists are the call's own. -/
structure EditV (a b : Option Addr) (ca cb : Nat) (e : EM) (La Lb : Heap) : Prop where
  fv : Vec T_api_File 2 a e.add.length ca (e.add.flatMap fileC) La
  dv : Vec T_int 1 b e.del.length cb (e.del.map intV) Lb
  len : e.add.length + e.del.length ≤ 16777216
  rng : -9223372036854775808 ≤ e.wal ∧ e.wal ≤ 9223372036854775807 ∧ -9223372036854775808 ≤ e.next ∧ e.next ≤ 9223372036854775807 ∧ -9223372036854775808 ≤ e.seq ∧ e.seq ≤ 9223372036854775807
theorem EditV.at {w0 w : World} {T : List Nat} {H La Lb : Heap} {F G : Heap → Heap} {a b : Option Addr} {ca cb : Nat} {e : EM} (h : EditV a b ca cb e La Lb) (hS : St w0 T H w) [hc : Chunk H La F] [hd : Chunk H Lb G] : EditAt w a b ca cb e :=
  ⟨filesAt_vec hS h.fv, h.dv.arr hS (by simp), h.dv.cap, h.len, h.rng⟩
def DecPost (o : Option EM) (r : Value) (w w' : World) : Prop := match o with
  | none => r = .tuple ⟨[.agg ⟨editC none none 0 0 zeroE⟩, .int .i64 11]⟩ ∧ St w [] [] w'
  | some e => ∃ a b ca cb La Lb, r = .tuple ⟨[.agg ⟨editC a b ca cb e⟩, .int .i64 0]⟩ ∧ EditV a b ca cb e La Lb ∧ St w [] (La ++ Lb) w'
theorem rdF_len : ∀ (n : Nat) (s : RB) (l : List FileM), (rdF n (s, l)).2.length + (rdF n (s, l)).1.t.length ≤ l.length + s.t.length + 1
  | 0, s, l => by show l.length + s.t.length ≤ _; omega
  | n + 1, s, l => by
    cases hb : s.bad with
    | true => rw [rdF_stop _ _ _ hb]; simp only; omega
    | false =>
      have h1 := secF_len hb
      rw [rdF_step _ _ _ hb]
      cases hb2 : (secF s).2.bad with
      | true =>
        rw [rdF_stop _ _ _ hb2]
        rw [hb2] at h1
        simp only [List.length_append, List.length_singleton, bit, if_true] at h1 ⊢; omega
      | false =>
        have h2 := rdF_len n (secF s).2 (l ++ [(secF s).1])
        rw [hb2] at h1
        simp only [List.length_append, List.length_singleton, bit] at h1 h2 ⊢
        simp at h1; omega
theorem rdI_len : ∀ (n : Nat) (s : RB) (l : List Int), (rdI n (s, l)).2.length + (rdI n (s, l)).1.t.length ≤ l.length + s.t.length + 1
  | 0, s, l => by show l.length + s.t.length ≤ _; omega
  | n + 1, s, l => by
    cases hb : s.bad with
    | true => rw [rdI_stop _ _ _ hb]; simp only; omega
    | false =>
      have h1 := rbInt_len hb
      rw [rdI_step _ _ _ hb]
      cases hb2 : (rbInt s).2.bad with
      | true =>
        rw [rdI_stop _ _ _ hb2]
        rw [hb2] at h1
        simp only [List.length_append, List.length_singleton, bit, if_true] at h1 ⊢; omega
      | false =>
        have h2 := rdI_len n (rbInt s).2 (l ++ [(rbInt s).1])
        rw [hb2] at h1
        simp only [List.length_append, List.length_singleton, bit] at h1 h2 ⊢
        simp at h1; omega
theorem rbInt_ok (s : RB) : i64ok (rbInt s).1 := ok_zig (by unfold rbInt intO; simp only [zig_unzig]; exact numO_lt s.t)
set_option maxRecDepth 4000 in
set_option maxHeartbeats 8000000 in
theorem Decode_spec {w : World} {t : Bytes} (ht : t.length ≤ 16777000) :
    Cl Tryd.prog f_manifest_Decode [Str t] w fun r w' => DecPost (decodeM t) r w w' := by
  have hS := St.start w
  refine en_manifest_Decode rfl ?_
  repeat (first | refine SemW.run tblOk ?_ | refine IntG.nw (by omega) ?_ | refine IntG.nu8 (by omega) ?_ | refine IntG.nu32 (by omega) ?_ | refine IntG.nu64 (by omega) ?_ | refine IntG.wr' rfl ?_ | refine Chk.mk (by omega) ?_ | (refine BrG.id ?_; first | with_reducible refine BrG.t ?_ | with_reducible refine BrG.f ?_ | with_reducible refine BrG.notG ?_ | with_reducible refine BrG.nn ?_ | with_reducible refine BrG.ns ?_ | refine BrG.pos (by omega) ?_ | refine BrG.neg (by omega) ?_ | with_reducible refine BrG.pos rfl ?_ | refine BrG.pos (by assumption) ?_ | refine BrG.neg (by assumption) ?_ | refine BrG.pos (by decide) ?_ | refine BrG.neg (by decide) ?_) | refine Chk.mk (ptr_ok tblOk rfl rfl) ?_ | refine Chk.mk (by decide) ?_)
  refine hS.al ?_
  intro b2 w1 _ hS
  repeat (first | refine SemW.run tblOk ?_ | refine IntG.nw (by omega) ?_ | refine IntG.nu8 (by omega) ?_ | refine IntG.nu32 (by omega) ?_ | refine IntG.nu64 (by omega) ?_ | refine IntG.wr' rfl ?_ | refine Chk.mk (by omega) ?_ | (refine BrG.id ?_; first | with_reducible refine BrG.t ?_ | with_reducible refine BrG.f ?_ | with_reducible refine BrG.notG ?_ | with_reducible refine BrG.nn ?_ | with_reducible refine BrG.ns ?_ | refine BrG.pos (by omega) ?_ | refine BrG.neg (by omega) ?_ | with_reducible refine BrG.pos rfl ?_ | refine BrG.pos (by assumption) ?_ | refine BrG.neg (by assumption) ?_ | refine BrG.pos (by decide) ?_ | refine BrG.neg (by decide) ?_) | refine Chk.mk (ptr_ok tblOk rfl rfl) ?_ | refine Chk.mk (by decide) ?_)
  refine Cl.mono PRead_spec ?_
  rintro _ w2 ⟨rb, rfl, hS'⟩
  have hS := hS.callNew hS'
  repeat (first | refine SemW.run tblOk ?_ | refine IntG.nw (by omega) ?_ | refine IntG.nu8 (by omega) ?_ | refine IntG.nu32 (by omega) ?_ | refine IntG.nu64 (by omega) ?_ | refine IntG.wr' rfl ?_ | refine Chk.mk (by omega) ?_ | (refine BrG.id ?_; first | with_reducible refine BrG.t ?_ | with_reducible refine BrG.f ?_ | with_reducible refine BrG.notG ?_ | with_reducible refine BrG.nn ?_ | with_reducible refine BrG.ns ?_ | refine BrG.pos (by omega) ?_ | refine BrG.neg (by omega) ?_ | with_reducible refine BrG.pos rfl ?_ | refine BrG.pos (by assumption) ?_ | refine BrG.neg (by assumption) ?_ | refine BrG.pos (by decide) ?_ | refine BrG.neg (by decide) ?_) | refine Chk.mk (ptr_ok tblOk rfl rfl) ?_ | refine Chk.mk (by decide) ?_)
  refine hS.al ?_
  intro rr w3 _ hS
  repeat (first | refine SemW.run tblOk ?_ | refine IntG.nw (by omega) ?_ | refine IntG.nu8 (by omega) ?_ | refine IntG.nu32 (by omega) ?_ | refine IntG.nu64 (by omega) ?_ | refine IntG.wr' rfl ?_ | refine Chk.mk (by omega) ?_ | (refine BrG.id ?_; first | with_reducible refine BrG.t ?_ | with_reducible refine BrG.f ?_ | with_reducible refine BrG.notG ?_ | with_reducible refine BrG.nn ?_ | with_reducible refine BrG.ns ?_ | refine BrG.pos (by omega) ?_ | refine BrG.neg (by omega) ?_ | with_reducible refine BrG.pos rfl ?_ | refine BrG.pos (by assumption) ?_ | refine BrG.neg (by assumption) ?_ | refine BrG.pos (by decide) ?_ | refine BrG.neg (by decide) ?_) | refine Chk.mk (ptr_ok tblOk rfl rfl) ?_ | refine Chk.mk (by decide) ?_)
  refine hS.al ?_
  intro b4 w4 _ hS
  repeat (first | refine SemW.run tblOk ?_ | refine IntG.nw (by omega) ?_ | refine IntG.nu8 (by omega) ?_ | refine IntG.nu32 (by omega) ?_ | refine IntG.nu64 (by omega) ?_ | refine IntG.wr' rfl ?_ | refine Chk.mk (by omega) ?_ | (refine BrG.id ?_; first | with_reducible refine BrG.t ?_ | with_reducible refine BrG.f ?_ | with_reducible refine BrG.notG ?_ | with_reducible refine BrG.nn ?_ | with_reducible refine BrG.ns ?_ | refine BrG.pos (by omega) ?_ | refine BrG.neg (by omega) ?_ | with_reducible refine BrG.pos rfl ?_ | refine BrG.pos (by assumption) ?_ | refine BrG.neg (by assumption) ?_ | refine BrG.pos (by decide) ?_ | refine BrG.neg (by decide) ?_) | refine Chk.mk (ptr_ok tblOk rfl rfl) ?_ | refine Chk.mk (by decide) ?_ | refine hS.ld rfl ?_ | refine hS.ldn rfl ?_ | (refine hS.st rfl rfl ?_; intro _ hS))
  refine hS.al ?_
  intro b5 w5 _ hS
  have hS : St w [] ([(b5, .cells ⟨[.slice none 0 0, .slice none 0 0, .int .i64 0, .int .i64 0, .int .i64 0]⟩ T_api_Edit (0, 0)), (b4, .cells ⟨[ptr rr]⟩ T_Ptr_manifest_reader (0, 0))] ++ ([(rr, .cells ⟨[ptr rb, .bool false]⟩ T_manifest_reader (0, 0)), (rb, .cells ⟨[Str t]⟩ T_pack_Reader (0, 0))] ++ [(b2, .cells ⟨[.slice none 0 0, .slice none 0 0, .int .i64 0, .int .i64 0, .int .i64 0]⟩ T_api_Edit (0, 0))])) w5 := hS
  have hS : St w [] (((rr, .cells ⟨[ptr rb, .bool false]⟩ T_manifest_reader (0, 0)) :: (rb, .cells ⟨[Str t]⟩ T_pack_Reader (0, 0)) :: (b4, .cells ⟨[ptr rr]⟩ T_Ptr_manifest_reader (0, 0)) :: (b5, .cells ⟨[.slice none 0 0, .slice none 0 0, .int .i64 0, .int .i64 0, .int .i64 0]⟩ T_api_Edit (0, 0)) :: []) ++ [(b2, .cells ⟨[.slice none 0 0, .slice none 0 0, .int .i64 0, .int .i64 0, .int .i64 0]⟩ T_api_Edit (0, 0))]) w5 := hS.perm (perm5 _ _ _ _ _)
  repeat (first | refine SemW.run tblOk ?_ | refine IntG.nw (by omega) ?_ | refine IntG.nu8 (by omega) ?_ | refine IntG.nu32 (by omega) ?_ | refine IntG.nu64 (by omega) ?_ | refine IntG.wr' rfl ?_ | refine Chk.mk (by omega) ?_ | (refine BrG.id ?_; first | with_reducible refine BrG.t ?_ | with_reducible refine BrG.f ?_ | with_reducible refine BrG.notG ?_ | with_reducible refine BrG.nn ?_ | with_reducible refine BrG.ns ?_ | refine BrG.pos (by omega) ?_ | refine BrG.neg (by omega) ?_ | with_reducible refine BrG.pos rfl ?_ | refine BrG.pos (by assumption) ?_ | refine BrG.neg (by assumption) ?_ | refine BrG.pos (by decide) ?_ | refine BrG.neg (by decide) ?_) | refine Chk.mk (ptr_ok tblOk rfl rfl) ?_ | refine Chk.mk (by decide) ?_ | refine hS.ld rfl ?_ | refine hS.ldn rfl ?_ | (refine hS.st rfl rfl ?_; intro _ hS))
  refine RunG.of rfl ?_
  repeat (first | refine SemW.run tblOk ?_ | refine IntG.nw (by omega) ?_ | refine IntG.nu8 (by omega) ?_ | refine IntG.nu32 (by omega) ?_ | refine IntG.nu64 (by omega) ?_ | refine IntG.wr' rfl ?_ | refine Chk.mk (by omega) ?_ | (refine BrG.id ?_; first | with_reducible refine BrG.t ?_ | with_reducible refine BrG.f ?_ | with_reducible refine BrG.notG ?_ | with_reducible refine BrG.nn ?_ | with_reducible refine BrG.ns ?_ | refine BrG.pos (by omega) ?_ | refine BrG.neg (by omega) ?_ | with_reducible refine BrG.pos rfl ?_ | refine BrG.pos (by assumption) ?_ | refine BrG.neg (by assumption) ?_ | refine BrG.pos (by decide) ?_ | refine BrG.neg (by decide) ?_) | refine Chk.mk (ptr_ok tblOk rfl rfl) ?_ | refine Chk.mk (by decide) ?_ | refine hS.ld rfl ?_ | refine hS.ldn rfl ?_ | (refine hS.st rfl rfl ?_; intro _ hS))
  refine Cl.mono (eachF_spec (N := t.length) (s := ⟨t, false⟩) (l := []) Vec.nil (hS.part (L := (rr, .cells ⟨[ptr rb, .bool false]⟩ T_manifest_reader (0, 0)) :: (rb, .cells ⟨[Str t]⟩ T_pack_Reader (0, 0)) :: (b4, .cells ⟨[ptr rr]⟩ T_Ptr_manifest_reader (0, 0)) :: (b5, .cells ⟨[.slice none 0 0, .slice none 0 0, .int .i64 0, .int .i64 0, .int .i64 0]⟩ T_api_Edit (0, 0)) :: [])) rfl (by simp) (by omega)) ?_
  rintro _ w6 ⟨fa, fc, La, hfv, hS'⟩
  have hS := hS.call (L := (rr, .cells ⟨[ptr rb, .bool false]⟩ T_manifest_reader (0, 0)) :: (rb, .cells ⟨[Str t]⟩ T_pack_Reader (0, 0)) :: (b4, .cells ⟨[ptr rr]⟩ T_Ptr_manifest_reader (0, 0)) :: (b5, .cells ⟨[.slice none 0 0, .slice none 0 0, .int .i64 0, .int .i64 0, .int .i64 0]⟩ T_api_Edit (0, 0)) :: []) hS'
  have hrl := rdF_len (rbNum ⟨t, false⟩).1 (rbNum ⟨t, false⟩).2 []
  have hnl : (rbNum ⟨t, false⟩).2.t.length ≤ t.length := numO_len t
  unfold decodeM readE
  simp only
  generalize rdF (rbNum ⟨t, false⟩).1 ((rbNum ⟨t, false⟩).2, []) = X1 at hS hfv hrl ⊢
  obtain ⟨s1, l1⟩ := X1
  simp only [List.length_nil] at hS hfv hrl ⊢
  have hS : St w [] (((rr, .cells ⟨[ptr rb, .bool s1.bad]⟩ T_manifest_reader (0, 0)) :: (rb, .cells ⟨[Str s1.t]⟩ T_pack_Reader (0, 0)) :: (b4, .cells ⟨[ptr rr]⟩ T_Ptr_manifest_reader (0, 0)) :: (b5, .cells ⟨[.slice fa l1.length fc, .slice none 0 0, .int .i64 0, .int .i64 0, .int .i64 0]⟩ T_api_Edit (0, 0)) :: []) ++ (La ++ [(b2, .cells ⟨[.slice none 0 0, .slice none 0 0, .int .i64 0, .int .i64 0, .int .i64 0]⟩ T_api_Edit (0, 0))])) w6 := hS
  repeat (first | refine SemW.run tblOk ?_ | refine IntG.nw (by omega) ?_ | refine IntG.nu8 (by omega) ?_ | refine IntG.nu32 (by omega) ?_ | refine IntG.nu64 (by omega) ?_ | refine IntG.wr' rfl ?_ | refine Chk.mk (by omega) ?_ | (refine BrG.id ?_; first | with_reducible refine BrG.t ?_ | with_reducible refine BrG.f ?_ | with_reducible refine BrG.notG ?_ | with_reducible refine BrG.nn ?_ | with_reducible refine BrG.ns ?_ | refine BrG.pos (by omega) ?_ | refine BrG.neg (by omega) ?_ | with_reducible refine BrG.pos rfl ?_ | refine BrG.pos (by assumption) ?_ | refine BrG.neg (by assumption) ?_ | refine BrG.pos (by decide) ?_ | refine BrG.neg (by decide) ?_) | refine Chk.mk (ptr_ok tblOk rfl rfl) ?_ | refine Chk.mk (by decide) ?_ | refine hS.ld rfl ?_ | refine hS.ldn rfl ?_ | (refine hS.st rfl rfl ?_; intro _ hS))
  refine RunG.of rfl ?_
  repeat (first | refine SemW.run tblOk ?_ | refine IntG.nw (by omega) ?_ | refine IntG.nu8 (by omega) ?_ | refine IntG.nu32 (by omega) ?_ | refine IntG.nu64 (by omega) ?_ | refine IntG.wr' rfl ?_ | refine Chk.mk (by omega) ?_ | (refine BrG.id ?_; first | with_reducible refine BrG.t ?_ | with_reducible refine BrG.f ?_ | with_reducible refine BrG.notG ?_ | with_reducible refine BrG.nn ?_ | with_reducible refine BrG.ns ?_ | refine BrG.pos (by omega) ?_ | refine BrG.neg (by omega) ?_ | with_reducible refine BrG.pos rfl ?_ | refine BrG.pos (by assumption) ?_ | refine BrG.neg (by assumption) ?_ | refine BrG.pos (by decide) ?_ | refine BrG.neg (by decide) ?_) | refine Chk.mk (ptr_ok tblOk rfl rfl) ?_ | refine Chk.mk (by decide) ?_ | refine hS.ld rfl ?_ | refine hS.ldn rfl ?_ | (refine hS.st rfl rfl ?_; intro _ hS))
  refine Cl.mono (eachI_spec (N := s1.t.length) (s := s1) (l := []) (fa := fa) (fn := l1.length) (fc := fc) Vec.nil (hS.part (L := (rr, .cells ⟨[ptr rb, .bool s1.bad]⟩ T_manifest_reader (0, 0)) :: (rb, .cells ⟨[Str s1.t]⟩ T_pack_Reader (0, 0)) :: (b4, .cells ⟨[ptr rr]⟩ T_Ptr_manifest_reader (0, 0)) :: (b5, .cells ⟨[.slice fa l1.length fc, .slice none 0 0, .int .i64 0, .int .i64 0, .int .i64 0]⟩ T_api_Edit (0, 0)) :: [])) (by simp) (by omega)) ?_
  rintro _ w7 ⟨ia, ic, Lb, hiv, hS'⟩
  have hS := hS.call (L := (rr, .cells ⟨[ptr rb, .bool s1.bad]⟩ T_manifest_reader (0, 0)) :: (rb, .cells ⟨[Str s1.t]⟩ T_pack_Reader (0, 0)) :: (b4, .cells ⟨[ptr rr]⟩ T_Ptr_manifest_reader (0, 0)) :: (b5, .cells ⟨[.slice fa l1.length fc, .slice none 0 0, .int .i64 0, .int .i64 0, .int .i64 0]⟩ T_api_Edit (0, 0)) :: []) hS'
  have hrl2 := rdI_len (rbNum s1).1 (rbNum s1).2 []
  have hnl2 : (rbNum s1).2.t.length ≤ s1.t.length := numO_len s1.t
  generalize rdI (rbNum s1).1 ((rbNum s1).2, []) = X2 at hS hiv hrl2 ⊢
  obtain ⟨s2, l2⟩ := X2
  simp only [List.length_nil] at hS hiv hrl2 ⊢
  have hS : St w [] ([(rr, rdrC rb s2.bad), (rb, rdC s2.t)] ++ ((b4, .cells ⟨[ptr rr]⟩ T_Ptr_manifest_reader (0, 0)) :: (b5, .cells ⟨[.slice fa l1.length fc, .slice ia l2.length ic, .int .i64 0, .int .i64 0, .int .i64 0]⟩ T_api_Edit (0, 0)) :: (Lb ++ (La ++ [(b2, .cells ⟨[.slice none 0 0, .slice none 0 0, .int .i64 0, .int .i64 0, .int .i64 0]⟩ T_api_Edit (0, 0))])))) w7 := hS
  repeat (first | refine SemW.run tblOk ?_ | refine IntG.nw (by omega) ?_ | refine IntG.nu8 (by omega) ?_ | refine IntG.nu32 (by omega) ?_ | refine IntG.nu64 (by omega) ?_ | refine IntG.wr' rfl ?_ | refine Chk.mk (by omega) ?_ | (refine BrG.id ?_; first | with_reducible refine BrG.t ?_ | with_reducible refine BrG.f ?_ | with_reducible refine BrG.notG ?_ | with_reducible refine BrG.nn ?_ | with_reducible refine BrG.ns ?_ | refine BrG.pos (by omega) ?_ | refine BrG.neg (by omega) ?_ | with_reducible refine BrG.pos rfl ?_ | refine BrG.pos (by assumption) ?_ | refine BrG.neg (by assumption) ?_ | refine BrG.pos (by decide) ?_ | refine BrG.neg (by decide) ?_) | refine Chk.mk (ptr_ok tblOk rfl rfl) ?_ | refine Chk.mk (by decide) ?_ | refine hS.ld rfl ?_ | refine hS.ldn rfl ?_ | (refine hS.st rfl rfl ?_; intro _ hS))
  refine Cl.mono (rint_spec (s := s2) (hS.part (L := [(rr, rdrC rb s2.bad), (rb, rdC s2.t)])) (by omega)) ?_
  rintro _ w8 ⟨rfl, hS'⟩
  have hS := hS.call (L := [(rr, rdrC rb s2.bad), (rb, rdC s2.t)]) hS'
  have hz1 := rbInt_ok s2
  have hl3 : (rbInt s2).2.t.length ≤ s2.t.length := intO_len s2.t
  generalize rbInt s2 = X3 at hS hz1 hl3 ⊢
  obtain ⟨z1, s3⟩ := X3
  simp only at hS hz1 hl3 ⊢
  repeat (first | refine SemW.run tblOk ?_ | refine IntG.nw (by omega) ?_ | refine IntG.nu8 (by omega) ?_ | refine IntG.nu32 (by omega) ?_ | refine IntG.nu64 (by omega) ?_ | refine IntG.wr' rfl ?_ | refine Chk.mk (by omega) ?_ | (refine BrG.id ?_; first | with_reducible refine BrG.t ?_ | with_reducible refine BrG.f ?_ | with_reducible refine BrG.notG ?_ | with_reducible refine BrG.nn ?_ | with_reducible refine BrG.ns ?_ | refine BrG.pos (by omega) ?_ | refine BrG.neg (by omega) ?_ | with_reducible refine BrG.pos rfl ?_ | refine BrG.pos (by assumption) ?_ | refine BrG.neg (by assumption) ?_ | refine BrG.pos (by decide) ?_ | refine BrG.neg (by decide) ?_) | refine Chk.mk (ptr_ok tblOk rfl rfl) ?_ | refine Chk.mk (by decide) ?_ | refine hS.ld rfl ?_ | refine hS.ldn rfl ?_ | (refine hS.st rfl rfl ?_; intro _ hS))
  refine Cl.mono (rint_spec (s := s3) (hS.part (L := [(rr, rdrC rb s3.bad), (rb, rdC s3.t)])) (by omega)) ?_
  rintro _ w9 ⟨rfl, hS'⟩
  have hS := hS.call (L := [(rr, rdrC rb s3.bad), (rb, rdC s3.t)]) hS'
  have hz2 := rbInt_ok s3
  have hl4 : (rbInt s3).2.t.length ≤ s3.t.length := intO_len s3.t
  generalize rbInt s3 = X4 at hS hz2 hl4 ⊢
  obtain ⟨z2, s4⟩ := X4
  simp only at hS hz2 hl4 ⊢
  repeat (first | refine SemW.run tblOk ?_ | refine IntG.nw (by omega) ?_ | refine IntG.nu8 (by omega) ?_ | refine IntG.nu32 (by omega) ?_ | refine IntG.nu64 (by omega) ?_ | refine IntG.wr' rfl ?_ | refine Chk.mk (by omega) ?_ | (refine BrG.id ?_; first | with_reducible refine BrG.t ?_ | with_reducible refine BrG.f ?_ | with_reducible refine BrG.notG ?_ | with_reducible refine BrG.nn ?_ | with_reducible refine BrG.ns ?_ | refine BrG.pos (by omega) ?_ | refine BrG.neg (by omega) ?_ | with_reducible refine BrG.pos rfl ?_ | refine BrG.pos (by assumption) ?_ | refine BrG.neg (by assumption) ?_ | refine BrG.pos (by decide) ?_ | refine BrG.neg (by decide) ?_) | refine Chk.mk (ptr_ok tblOk rfl rfl) ?_ | refine Chk.mk (by decide) ?_ | refine hS.ld rfl ?_ | refine hS.ldn rfl ?_ | (refine hS.st rfl rfl ?_; intro _ hS))
  refine Cl.mono (rint_spec (s := s4) (hS.part (L := [(rr, rdrC rb s4.bad), (rb, rdC s4.t)])) (by omega)) ?_
  rintro _ w10 ⟨rfl, hS'⟩
  have hS := hS.call (L := [(rr, rdrC rb s4.bad), (rb, rdC s4.t)]) hS'
  have hz3 := rbInt_ok s4
  generalize rbInt s4 = X5 at hS hz3 ⊢
  obtain ⟨z3, s5⟩ := X5
  simp only at hS hz3 ⊢
  repeat (first | refine SemW.run tblOk ?_ | refine IntG.nw (by omega) ?_ | refine IntG.nu8 (by omega) ?_ | refine IntG.nu32 (by omega) ?_ | refine IntG.nu64 (by omega) ?_ | refine IntG.wr' rfl ?_ | refine Chk.mk (by omega) ?_ | (refine BrG.id ?_; first | with_reducible refine BrG.t ?_ | with_reducible refine BrG.f ?_ | with_reducible refine BrG.notG ?_ | with_reducible refine BrG.nn ?_ | with_reducible refine BrG.ns ?_ | refine BrG.pos (by omega) ?_ | refine BrG.neg (by omega) ?_ | with_reducible refine BrG.pos rfl ?_ | refine BrG.pos (by assumption) ?_ | refine BrG.neg (by assumption) ?_ | refine BrG.pos (by decide) ?_ | refine BrG.neg (by decide) ?_) | refine Chk.mk (ptr_ok tblOk rfl rfl) ?_ | refine Chk.mk (by decide) ?_ | refine hS.ld rfl ?_ | refine hS.ldn rfl ?_ | (refine hS.st rfl rfl ?_; intro _ hS))
  cases hb : s5.bad with
  | true =>
    rw [if_neg (by rintro ⟨h, -⟩; cases h)]
    rw [hb] at hS
    repeat (first | refine SemW.run tblOk ?_ | refine IntG.nw (by omega) ?_ | refine IntG.nu8 (by omega) ?_ | refine IntG.nu32 (by omega) ?_ | refine IntG.nu64 (by omega) ?_ | refine IntG.wr' rfl ?_ | refine Chk.mk (by omega) ?_ | (refine BrG.id ?_; first | with_reducible refine BrG.t ?_ | with_reducible refine BrG.f ?_ | with_reducible refine BrG.notG ?_ | with_reducible refine BrG.nn ?_ | with_reducible refine BrG.ns ?_ | refine BrG.pos (by omega) ?_ | refine BrG.neg (by omega) ?_ | with_reducible refine BrG.pos rfl ?_ | refine BrG.pos (by assumption) ?_ | refine BrG.neg (by assumption) ?_ | refine BrG.pos (by decide) ?_ | refine BrG.neg (by decide) ?_) | refine Chk.mk (ptr_ok tblOk rfl rfl) ?_ | refine Chk.mk (by decide) ?_ | refine hS.ld rfl ?_ | refine hS.ldn rfl ?_ | (refine hS.st rfl rfl ?_; intro _ hS))
    exact ⟨rfl, hS.nil⟩
  | false =>
    have hSb := hS
    rw [hb] at hS
    repeat (first | refine SemW.run tblOk ?_ | refine IntG.nw (by omega) ?_ | refine IntG.nu8 (by omega) ?_ | refine IntG.nu32 (by omega) ?_ | refine IntG.nu64 (by omega) ?_ | refine IntG.wr' rfl ?_ | refine Chk.mk (by omega) ?_ | (refine BrG.id ?_; first | with_reducible refine BrG.t ?_ | with_reducible refine BrG.f ?_ | with_reducible refine BrG.notG ?_ | with_reducible refine BrG.nn ?_ | with_reducible refine BrG.ns ?_ | refine BrG.pos (by omega) ?_ | refine BrG.neg (by omega) ?_ | with_reducible refine BrG.pos rfl ?_ | refine BrG.pos (by assumption) ?_ | refine BrG.neg (by assumption) ?_ | refine BrG.pos (by decide) ?_ | refine BrG.neg (by decide) ?_) | refine Chk.mk (ptr_ok tblOk rfl rfl) ?_ | refine Chk.mk (by decide) ?_ | refine hS.ld rfl ?_ | refine hS.ldn rfl ?_ | (refine hS.st rfl rfl ?_; intro _ hS))
    refine Cl.mono (RDone_spec (t := s5.t) (Holds.tl1 (hSb.part (L := [(rr, rdrC rb s5.bad), (rb, rdC s5.t)])))) ?_
    rintro _ w11 ⟨rfl, hS'⟩
    have hS := hS.call0 hS'
    by_cases hd : s5.t = []
    · rw [decide_eq_true hd]
      have hE : EditV fa ia fc ic ⟨l1, l2, z1, z2, z3⟩ La Lb := ⟨hfv, hiv, by simp only; omega, ⟨hz1.1, hz1.2, hz2.1, hz2.2, hz3.1, hz3.2⟩⟩
      have hSv := hS
      repeat (first | refine SemW.run tblOk ?_ | refine IntG.nw (by omega) ?_ | refine IntG.nu8 (by omega) ?_ | refine IntG.nu32 (by omega) ?_ | refine IntG.nu64 (by omega) ?_ | refine IntG.wr' rfl ?_ | refine Chk.mk (by omega) ?_ | (refine BrG.id ?_; first | with_reducible refine BrG.t ?_ | with_reducible refine BrG.f ?_ | with_reducible refine BrG.notG ?_ | with_reducible refine BrG.nn ?_ | with_reducible refine BrG.ns ?_ | refine BrG.pos (by omega) ?_ | refine BrG.neg (by omega) ?_ | with_reducible refine BrG.pos rfl ?_ | refine BrG.pos (by assumption) ?_ | refine BrG.neg (by assumption) ?_ | refine BrG.pos (by decide) ?_ | refine BrG.neg (by decide) ?_) | refine Chk.mk (ptr_ok tblOk rfl rfl) ?_ | refine Chk.mk (by decide) ?_ | refine hS.ld rfl ?_ | refine hS.ldn rfl ?_ | (refine hS.st rfl rfl ?_; intro _ hS))
      refine Cl.mono (right_spec (hE.at hS)) ?_
      rintro _ w12 ⟨rfl, hS'⟩
      have hS := hS.call0 hS'
      cases hr : rightE ⟨l1, l2, z1, z2, z3⟩ with
      | true =>
        rw [if_pos ⟨rfl, hd, rfl⟩]
        repeat (first | refine SemW.run tblOk ?_ | refine IntG.nw (by omega) ?_ | refine IntG.nu8 (by omega) ?_ | refine IntG.nu32 (by omega) ?_ | refine IntG.nu64 (by omega) ?_ | refine IntG.wr' rfl ?_ | refine Chk.mk (by omega) ?_ | (refine BrG.id ?_; first | with_reducible refine BrG.t ?_ | with_reducible refine BrG.f ?_ | with_reducible refine BrG.notG ?_ | with_reducible refine BrG.nn ?_ | with_reducible refine BrG.ns ?_ | refine BrG.pos (by omega) ?_ | refine BrG.neg (by omega) ?_ | with_reducible refine BrG.pos rfl ?_ | refine BrG.pos (by assumption) ?_ | refine BrG.neg (by assumption) ?_ | refine BrG.pos (by decide) ?_ | refine BrG.neg (by decide) ?_) | refine Chk.mk (ptr_ok tblOk rfl rfl) ?_ | refine Chk.mk (by decide) ?_ | refine hS.ld rfl ?_ | refine hS.ldn rfl ?_ | (refine hS.st rfl rfl ?_; intro _ hS))
        exact ⟨fa, ia, fc, ic, La, Lb, rfl, hE, ((St.tl2 (St.tl2 hS)).sub (List.Sublist.append_left (List.sublist_append_left _ _) Lb)).perm List.perm_append_comm⟩
      | false =>
        rw [if_neg (by rintro ⟨-, -, h⟩; cases h)]
        repeat (first | refine SemW.run tblOk ?_ | refine IntG.nw (by omega) ?_ | refine IntG.nu8 (by omega) ?_ | refine IntG.nu32 (by omega) ?_ | refine IntG.nu64 (by omega) ?_ | refine IntG.wr' rfl ?_ | refine Chk.mk (by omega) ?_ | (refine BrG.id ?_; first | with_reducible refine BrG.t ?_ | with_reducible refine BrG.f ?_ | with_reducible refine BrG.notG ?_ | with_reducible refine BrG.nn ?_ | with_reducible refine BrG.ns ?_ | refine BrG.pos (by omega) ?_ | refine BrG.neg (by omega) ?_ | with_reducible refine BrG.pos rfl ?_ | refine BrG.pos (by assumption) ?_ | refine BrG.neg (by assumption) ?_ | refine BrG.pos (by decide) ?_ | refine BrG.neg (by decide) ?_) | refine Chk.mk (ptr_ok tblOk rfl rfl) ?_ | refine Chk.mk (by decide) ?_ | refine hS.ld rfl ?_ | refine hS.ldn rfl ?_ | (refine hS.st rfl rfl ?_; intro _ hS))
        exact ⟨rfl, hS.nil⟩
    · rw [decide_eq_false hd, if_neg (by rintro ⟨-, h, -⟩; exact hd h)]
      repeat (first | refine SemW.run tblOk ?_ | refine IntG.nw (by omega) ?_ | refine IntG.nu8 (by omega) ?_ | refine IntG.nu32 (by omega) ?_ | refine IntG.nu64 (by omega) ?_ | refine IntG.wr' rfl ?_ | refine Chk.mk (by omega) ?_ | (refine BrG.id ?_; first | with_reducible refine BrG.t ?_ | with_reducible refine BrG.f ?_ | with_reducible refine BrG.notG ?_ | with_reducible refine BrG.nn ?_ | with_reducible refine BrG.ns ?_ | refine BrG.pos (by omega) ?_ | refine BrG.neg (by omega) ?_ | with_reducible refine BrG.pos rfl ?_ | refine BrG.pos (by assumption) ?_ | refine BrG.neg (by assumption) ?_ | refine BrG.pos (by decide) ?_ | refine BrG.neg (by decide) ?_) | refine Chk.mk (ptr_ok tblOk rfl rfl) ?_ | refine Chk.mk (by decide) ?_ | refine hS.ld rfl ?_ | refine hS.ldn rfl ?_ | (refine hS.st rfl rfl ?_; intro _ hS))
      exact ⟨rfl, hS.nil⟩
end Go.Proofs.YtkncpdehgcldbaaDoor
