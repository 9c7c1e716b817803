/- The document's digest: Sum, pad, Mac. -/
import Derived.Test.YtklppplnkpnbhaaDoorRef19E
namespace Go.Proofs.YtklppplnkpnbhaaDoor
open Go Go.Eng Go.Proofs

theorem sub_chunk {w : World} {T : List Nat} {g off cap k : Nat} {F : Bytes} (h : Arr w T (some ⟨g, off, none⟩) (F.map byteV)) (hc : F.length ≤ cap) (hk : 64 * k ≤ F.length) : Arr w T (subA g off (64 * k) cap 1) (((F.drop (64 * k)).take 64).map byteV) := by
  have e1 : F.map byteV = (F.take (64 * k)).map byteV ++ (F.drop (64 * k)).map byteV := by rw [← List.map_append, List.take_append_drop]
  rw [e1] at h
  have h2 := Arr.dropA (cap := cap) h (by simp; omega)
  have e2 : ((F.take (64 * k)).map byteV).length = 64 * k := by simp; omega
  rw [e2] at h2
  have e3 : (F.drop (64 * k)).map byteV = ((F.drop (64 * k)).take 64).map byteV ++ ((F.drop (64 * k)).drop 64).map byteV := by rw [← List.map_append, List.take_append_drop]
  rw [e3] at h2
  exact Arr.take h2
set_option maxHeartbeats 8000000 in
set_option maxRecDepth 8000 in
theorem SumE_spec {w : World} {t : Bytes} (ht : t.length ≤ 70368744177664) : Cl Tryd.prog f_tarmacref19_Sum [Str t] w fun v w' => v = Str (shaB t) ∧ St w [] [] w' := by
  have hS := St.start w
  have hflen := filled_len t
  refine en_tarmacref19_Sum rfl ?_
  unfold shaB
  repeat (first | refine SemW.run tblOk ?_ | refine IntG.nw (by omega) ?_ | refine IntG.nu8 (by omega) ?_ | refine IntG.nu32 (by omega) ?_ | refine IntG.nu64 (by omega) ?_ | refine IntG.wr' rfl ?_ | refine Chk.mk (by omega) ?_ | (refine BrG.id ?_; first | with_reducible refine BrG.t ?_ | with_reducible refine BrG.f ?_ | with_reducible refine BrG.notG ?_ | with_reducible refine BrG.nn ?_ | with_reducible refine BrG.ns ?_ | refine BrG.pos (by omega) ?_ | refine BrG.neg (by omega) ?_ | with_reducible refine BrG.pos rfl ?_ | refine BrG.pos (by assumption) ?_ | refine BrG.neg (by assumption) ?_) | refine Chk.mk (ptr_ok tblOk rfl rfl) ?_)
  refine hS.al ?_
  intro hb w1 _ hS
  repeat (first | refine SemW.run tblOk ?_ | refine IntG.nw (by omega) ?_ | refine IntG.nu8 (by omega) ?_ | refine IntG.nu32 (by omega) ?_ | refine IntG.nu64 (by omega) ?_ | refine IntG.wr' rfl ?_ | refine Chk.mk (by omega) ?_ | (refine BrG.id ?_; first | with_reducible refine BrG.t ?_ | with_reducible refine BrG.f ?_ | with_reducible refine BrG.notG ?_ | with_reducible refine BrG.nn ?_ | with_reducible refine BrG.ns ?_ | refine BrG.pos (by omega) ?_ | refine BrG.neg (by omega) ?_ | with_reducible refine BrG.pos rfl ?_ | refine BrG.pos (by assumption) ?_ | refine BrG.neg (by assumption) ?_) | refine Chk.mk (ptr_ok tblOk rfl rfl) ?_ | refine hS.ld rfl ?_ | refine hS.ldn rfl ?_ | (refine hS.st rfl rfl ?_; intro _ hS))
  refine Cl.mono (filledE_spec ht) ?_
  rintro _ w2 ⟨a, c, L, rfl, hv, hS'⟩
  have hS := hS.callNew hS'
  have hFl : (filled t).length ≤ 70368744177664 + 200 := by
    have : zerosFor t.length < 64 := by unfold zerosFor; omega
    simp [filled, be8]; omega
  have hhl := fun k => hashN_len (filled t) k
  have hht := fun k => hashN_lt (filled t) k
  have hnx : ∀ k, hashN (filled t) (k + 1) = addM (hashN (filled t) k) (rounds (hashN (filled t) k) (words (((filled t).drop (64 * k)).take 64) 48) 64) := fun k => rfl
  have h00 : hashN (filled t) 0 = hList := rfl
  have hpos : 0 < (filled t).length := by simp [filled, be8]; omega
  generalize filled t = F at hv hS hFl hhl hht hnx hflen h00 hpos ⊢
  obtain ⟨g, off, rfl⟩ := hv.pos hpos
  have hcap := hv.len.2
  have hS : St w [] (L ++ [(hb, .cells ⟨(hashN F 0).map u32V⟩ T_8_uint32 (0, 0))]) w2 := by rw [h00]; exact hS
  repeat (first | refine SemW.run tblOk ?_ | refine IntG.nw (by omega) ?_ | refine IntG.nu8 (by omega) ?_ | refine IntG.nu32 (by omega) ?_ | refine IntG.nu64 (by omega) ?_ | refine IntG.wr' rfl ?_ | refine Chk.mk (by omega) ?_ | (refine BrG.id ?_; first | with_reducible refine BrG.t ?_ | with_reducible refine BrG.f ?_ | with_reducible refine BrG.notG ?_ | with_reducible refine BrG.nn ?_ | with_reducible refine BrG.ns ?_ | refine BrG.pos (by omega) ?_ | refine BrG.neg (by omega) ?_ | with_reducible refine BrG.pos rfl ?_ | refine BrG.pos (by assumption) ?_ | refine BrG.neg (by assumption) ?_) | refine Chk.mk (ptr_ok tblOk rfl rfl) ?_)
  refine SemW.loop (fun k : Nat => [(3, ptr hb), (4, .slice (some ⟨g, off, none⟩) F.length c), (5, .int .i64 (64 * k : Nat))])
    (fun k w' => 64 * k ≤ F.length ∧ St w [] (L ++ [(hb, .cells ⟨(hashN F k).map u32V⟩ T_8_uint32 (0, 0))]) w') (fun k => F.length - 64 * k) 0
    ⟨rfl, rfl, rfl, trivial⟩ ⟨Nat.zero_le _, hS⟩ ?_
  rintro k w3 ⟨hk, hS⟩
  by_cases hkl : 64 * k < F.length
  · have hk64 : 64 * k + 64 ≤ F.length := by omega
    have hch : ((F.drop (64 * k)).take 64).length = 64 := by simp; omega
    have hnk := hnx k
    have hl8 := hhl k
    have ht8 := hht k
    have harr := fun (w' : World) (hw : St w [] (L ++ [(hb, .cells ⟨(hashN F k).map u32V⟩ T_8_uint32 (0, 0))]) w') => sub_chunk (k := k) (hv.arr (T' := []) hw (by simp)) hcap hk
    have hl8' := hhl (k + 1)
    obtain ⟨hN, hNe⟩ : ∃ z, z = hashN F (k + 1) := ⟨_, rfl⟩
    rw [← hNe] at hnk hl8'
    obtain ⟨h, he⟩ : ∃ z, z = hashN F k := ⟨_, rfl⟩
    rw [← he] at hnk hl8 ht8 hS harr
    obtain ⟨A, Bv, C, D, E, G, H, I, rfl⟩ := eight h hl8
    repeat (first | refine SemW.run tblOk ?_ | refine IntG.nw (by omega) ?_ | refine IntG.nu8 (by omega) ?_ | refine IntG.nu32 (by omega) ?_ | refine IntG.nu64 (by omega) ?_ | refine IntG.wr' rfl ?_ | refine Chk.mk (by omega) ?_ | (refine BrG.id ?_; first | with_reducible refine BrG.t ?_ | with_reducible refine BrG.f ?_ | with_reducible refine BrG.notG ?_ | with_reducible refine BrG.nn ?_ | with_reducible refine BrG.ns ?_ | refine BrG.pos (by omega) ?_ | refine BrG.neg (by omega) ?_ | with_reducible refine BrG.pos rfl ?_ | refine BrG.pos (by assumption) ?_ | refine BrG.neg (by assumption) ?_) | refine Chk.mk (ptr_ok tblOk rfl rfl) ?_)
    refine SemW.draw tblOk mixed (fun w' => St w [] (L ++ [(hb, .cells ⟨[A, Bv, C, D, E, G, H, I].map u32V⟩ T_8_uint32 (0, 0))]) w') [8] [0, 1, 2, 3, 4, 5, 6, 7, 8] (by kernel_rfl) hS.drew ?_
    have hS := hS.drew
    repeat (first | refine SemW.run tblOk ?_ | refine IntG.nw (by omega) ?_ | refine IntG.nu8 (by omega) ?_ | refine IntG.nu32 (by omega) ?_ | refine IntG.nu64 (by omega) ?_ | refine IntG.wr' rfl ?_ | refine Chk.mk (by omega) ?_ | (refine BrG.id ?_; first | with_reducible refine BrG.t ?_ | with_reducible refine BrG.f ?_ | with_reducible refine BrG.notG ?_ | with_reducible refine BrG.nn ?_ | with_reducible refine BrG.ns ?_ | refine BrG.pos (by omega) ?_ | refine BrG.neg (by omega) ?_ | with_reducible refine BrG.pos rfl ?_ | refine BrG.pos (by assumption) ?_ | refine BrG.neg (by assumption) ?_) | refine Chk.mk (ptr_ok tblOk rfl rfl) ?_ | refine hS.ldC rfl ?_ | refine hS.ldnC rfl ?_)
    rw [show ((64 * k : Nat) : Int).toNat = 64 * k by omega, show (((64 * k : Nat) : Int) + 64).toNat - 64 * k = 64 by omega]
    refine Cl.mono (wordsE_spec (harr _ hS) hch) ?_
    rintro _ w4 ⟨rfl, hS'⟩
    have hS := hS.call0 hS'
    refine Chk.mk hS ?_
    repeat (first | refine SemW.run tblOk ?_ | refine IntG.nw (by omega) ?_ | refine IntG.nu8 (by omega) ?_ | refine IntG.nu32 (by omega) ?_ | refine IntG.nu64 (by omega) ?_ | refine IntG.wr' rfl ?_ | refine Chk.mk (by omega) ?_ | (refine BrG.id ?_; first | with_reducible refine BrG.t ?_ | with_reducible refine BrG.f ?_ | with_reducible refine BrG.notG ?_ | with_reducible refine BrG.nn ?_ | with_reducible refine BrG.ns ?_ | refine BrG.pos (by omega) ?_ | refine BrG.neg (by omega) ?_ | with_reducible refine BrG.pos rfl ?_ | refine BrG.pos (by assumption) ?_ | refine BrG.neg (by assumption) ?_) | refine Chk.mk (ptr_ok tblOk rfl rfl) ?_ | refine hS.ldC rfl ?_ | refine hS.ldnC rfl ?_)
    refine Cl.mono (stepE_spec hl8 ht8 (by rw [words_len]) (words_lt _ 48)) ?_
    rintro _ w5 ⟨rfl, hS'⟩
    have hS := hS.call0 hS'
    refine Chk.mk hS ?_
    rw [← hnk]
    obtain ⟨z0, z1, z2, z3, z4, z5, z6, z7, hz⟩ := eight hN hl8'
    rw [hz]
    repeat (first | refine SemW.run tblOk ?_ | refine IntG.nw (by omega) ?_ | refine IntG.nu8 (by omega) ?_ | refine IntG.nu32 (by omega) ?_ | refine IntG.nu64 (by omega) ?_ | refine IntG.wr' rfl ?_ | refine Chk.mk (by omega) ?_ | (refine BrG.id ?_; first | with_reducible refine BrG.t ?_ | with_reducible refine BrG.f ?_ | with_reducible refine BrG.notG ?_ | with_reducible refine BrG.nn ?_ | with_reducible refine BrG.ns ?_ | refine BrG.pos (by omega) ?_ | refine BrG.neg (by omega) ?_ | with_reducible refine BrG.pos rfl ?_ | refine BrG.pos (by assumption) ?_ | refine BrG.neg (by assumption) ?_) | refine Chk.mk (ptr_ok tblOk rfl rfl) ?_ | refine hS.ldC rfl ?_ | refine hS.ldnC rfl ?_)
    refine hS.st rfl rfl ?_
    intro w6 hS
    repeat (first | refine SemW.run tblOk ?_ | refine IntG.nw (by omega) ?_ | refine IntG.nu8 (by omega) ?_ | refine IntG.nu32 (by omega) ?_ | refine IntG.nu64 (by omega) ?_ | refine IntG.wr' rfl ?_ | refine Chk.mk (by omega) ?_ | (refine BrG.id ?_; first | with_reducible refine BrG.t ?_ | with_reducible refine BrG.f ?_ | with_reducible refine BrG.notG ?_ | with_reducible refine BrG.nn ?_ | with_reducible refine BrG.ns ?_ | refine BrG.pos (by omega) ?_ | refine BrG.neg (by omega) ?_ | with_reducible refine BrG.pos rfl ?_ | refine BrG.pos (by assumption) ?_ | refine BrG.neg (by assumption) ?_) | refine Chk.mk (ptr_ok tblOk rfl rfl) ?_ | refine hS.ldC rfl ?_ | refine hS.ldnC rfl ?_)
    refine ⟨k + 1, ⟨rfl, rfl, ?_, trivial⟩, ⟨by omega, ?_⟩, by omega⟩
    · show _ = (_ : Value)
      rw [show ((64 * (k + 1) : Nat) : Int) = ((64 * k : Nat) : Int) + 64 by omega]
    · rw [← hNe, hz]; exact hS
  have hke : k = F.length / 64 := by omega
  have hlen64 : 64 * k = F.length := by omega
  subst hke
  have h8 := hhl (F.length / 64)
  have h8t := hht (F.length / 64)
  generalize hashN F (F.length / 64) = h at hS h8 h8t ⊢
  have hout : ((h.map be4w).flatten) = outB h 8 := by unfold outB; rw [List.take_of_length_le (by omega)]
  rw [hout]
  obtain ⟨A, Bv, C, D, E, G, H, I, rfl⟩ := eight h h8
  have hS := hS.sub (H' := [(hb, .cells ⟨[A, Bv, C, D, E, G, H, I].map u32V⟩ T_8_uint32 (0, 0))]) (List.sublist_append_right _ _)
  have hS : St w [] ((hb, .cells ⟨[u32V A, u32V Bv, u32V C, u32V D, u32V E, u32V G, u32V H, u32V I]⟩ T_8_uint32 (0, 0)) :: []) w3 := hS
  repeat (first | refine SemW.run tblOk ?_ | refine IntG.nw (by omega) ?_ | refine IntG.nu8 (by omega) ?_ | refine IntG.nu32 (by omega) ?_ | refine IntG.nu64 (by omega) ?_ | refine IntG.wr' rfl ?_ | refine Chk.mk (by omega) ?_ | (refine BrG.id ?_; first | with_reducible refine BrG.t ?_ | with_reducible refine BrG.f ?_ | with_reducible refine BrG.notG ?_ | with_reducible refine BrG.nn ?_ | with_reducible refine BrG.ns ?_ | refine BrG.pos (by omega) ?_ | refine BrG.neg (by omega) ?_ | with_reducible refine BrG.pos rfl ?_ | refine BrG.pos (by assumption) ?_ | refine BrG.neg (by assumption) ?_) | refine Chk.mk (ptr_ok tblOk rfl rfl) ?_ | refine hS.ld rfl ?_ | refine hS.ldn rfl ?_ | (refine hS.st rfl rfl ?_; intro _ hS))
  have hS := hS.nil
  refine SemW.loop (fun x : Nat × Option Addr × Nat => [(6, .slice x.2.1 (4 * x.1) x.2.2), (26, .agg ⟨[u32V A, u32V Bv, u32V C, u32V D, u32V E, u32V G, u32V H, u32V I]⟩), (27, .int .i64 x.1)])
    (fun x w' => x.1 ≤ 8 ∧ ∃ L, Vec T_uint8 1 x.2.1 (4 * x.1) x.2.2 ((outB [A, Bv, C, D, E, G, H, I] x.1).map byteV) L ∧ St w [] L w') (fun x => 8 - x.1) (0, none, 0)
    ⟨rfl, rfl, rfl, trivial⟩ ⟨Nat.zero_le _, [], Vec.nil, hS⟩ ?_
  rintro ⟨n, va, vc⟩ w7 ⟨hn, L8, hv8, hS⟩
  simp only at hn hv8 ⊢
  by_cases hnl : n < 8
  · have gv : ([u32V A, u32V Bv, u32V C, u32V D, u32V E, u32V G, u32V H, u32V I] : List Value)[n]? = some (u32V ([A, Bv, C, D, E, G, H, I].getD n 0)) := by
      match n, hnl with
      | 0, _ => rfl
      | 1, _ => rfl
      | 2, _ => rfl
      | 3, _ => rfl
      | 4, _ => rfl
      | 5, _ => rfl
      | 6, _ => rfl
      | 7, _ => rfl
    have hos := outB_succ [A, Bv, C, D, E, G, H, I] n (by simpa using hnl)
    have hxl := getD_lt _ h8t n
    generalize [A, Bv, C, D, E, G, H, I].getD n 0 = x at gv hos hxl
    have d1 : ((x : Int).tdiv 16777216) = ((x / 16777216 : Nat) : Int) := tdivN x 16777216
    have d2 : ((x : Int).tdiv 65536) = ((x / 65536 : Nat) : Int) := tdivN x 65536
    have d3 : ((x : Int).tdiv 256) = ((x / 256 : Nat) : Int) := tdivN x 256
    have m2 : (((x / 65536 : Nat) : Int).tmod 256) = ((x / 65536 % 256 : Nat) : Int) := tmodN _ 256
    have m3 : (((x / 256 : Nat) : Int).tmod 256) = ((x / 256 % 256 : Nat) : Int) := tmodN _ 256
    have m4 : ((x : Int).tmod 256) = ((x % 256 : Nat) : Int) := tmodN _ 256
    have hw : ∀ m : Nat, m < 256 → IntKind.u8.wrap (m : Int) = (m : Int) := fun m hm => by
      rw [wrapU .u8 rfl]; congr 1; exact Nat.mod_eq_of_lt hm
    have hbe : ([.int .u8 ((x / 16777216 : Nat) : Int), .int .u8 ((x / 65536 % 256 : Nat) : Int), .int .u8 ((x / 256 % 256 : Nat) : Int), .int .u8 ((x % 256 : Nat) : Int)] : List Value) = (be4w x).map byteV := by
      have : x / 16777216 % 256 = x / 16777216 := by omega
      simp [be4w, byteV, this]
    repeat (first | refine SemW.run tblOk ?_ | refine IntG.nw (by omega) ?_ | refine IntG.nu8 (by omega) ?_ | refine IntG.nu32 (by omega) ?_ | refine IntG.nu64 (by omega) ?_ | refine IntG.wr' rfl ?_ | refine Chk.mk (by omega) ?_ | (refine BrG.id ?_; first | with_reducible refine BrG.t ?_ | with_reducible refine BrG.f ?_ | with_reducible refine BrG.notG ?_ | with_reducible refine BrG.nn ?_ | with_reducible refine BrG.ns ?_ | refine BrG.pos (by omega) ?_ | refine BrG.neg (by omega) ?_ | with_reducible refine BrG.pos rfl ?_ | refine BrG.pos (by assumption) ?_ | refine BrG.neg (by assumption) ?_) | refine Chk.mk (ptr_ok tblOk rfl rfl) ?_)
    refine indexArr (n := 8) tblOk (t := T_8_uint32) rfl rfl rfl rfl (by omega) gv ?_
    repeat (first | refine SemW.run tblOk ?_ | refine IntG.nw (by omega) ?_ | refine IntG.nu8 (by omega) ?_ | refine IntG.nu32 (by omega) ?_ | refine IntG.nu64 (by omega) ?_ | refine IntG.wr' rfl ?_ | refine Chk.mk (by omega) ?_ | (refine BrG.id ?_; first | with_reducible refine BrG.t ?_ | with_reducible refine BrG.f ?_ | with_reducible refine BrG.notG ?_ | with_reducible refine BrG.nn ?_ | with_reducible refine BrG.ns ?_ | refine BrG.pos (by omega) ?_ | refine BrG.neg (by omega) ?_ | with_reducible refine BrG.pos rfl ?_ | refine BrG.pos (by assumption) ?_ | refine BrG.neg (by assumption) ?_) | refine Chk.mk (ptr_ok tblOk rfl rfl) ?_)
    rw [d1]
    repeat (first | refine SemW.run tblOk ?_ | refine IntG.nw (by omega) ?_ | refine IntG.nu8 (by omega) ?_ | refine IntG.nu32 (by omega) ?_ | refine IntG.nu64 (by omega) ?_ | refine IntG.wr' rfl ?_ | refine Chk.mk (by omega) ?_ | (refine BrG.id ?_; first | with_reducible refine BrG.t ?_ | with_reducible refine BrG.f ?_ | with_reducible refine BrG.notG ?_ | with_reducible refine BrG.nn ?_ | with_reducible refine BrG.ns ?_ | refine BrG.pos (by omega) ?_ | refine BrG.neg (by omega) ?_ | with_reducible refine BrG.pos rfl ?_ | refine BrG.pos (by assumption) ?_ | refine BrG.neg (by assumption) ?_) | refine Chk.mk (ptr_ok tblOk rfl rfl) ?_)
    rw [d2]
    repeat (first | refine SemW.run tblOk ?_ | refine IntG.nw (by omega) ?_ | refine IntG.nu8 (by omega) ?_ | refine IntG.nu32 (by omega) ?_ | refine IntG.nu64 (by omega) ?_ | refine IntG.wr' rfl ?_ | refine Chk.mk (by omega) ?_ | (refine BrG.id ?_; first | with_reducible refine BrG.t ?_ | with_reducible refine BrG.f ?_ | with_reducible refine BrG.notG ?_ | with_reducible refine BrG.nn ?_ | with_reducible refine BrG.ns ?_ | refine BrG.pos (by omega) ?_ | refine BrG.neg (by omega) ?_ | with_reducible refine BrG.pos rfl ?_ | refine BrG.pos (by assumption) ?_ | refine BrG.neg (by assumption) ?_) | refine Chk.mk (ptr_ok tblOk rfl rfl) ?_)
    rw [m2]
    repeat (first | refine SemW.run tblOk ?_ | refine IntG.nw (by omega) ?_ | refine IntG.nu8 (by omega) ?_ | refine IntG.nu32 (by omega) ?_ | refine IntG.nu64 (by omega) ?_ | refine IntG.wr' rfl ?_ | refine Chk.mk (by omega) ?_ | (refine BrG.id ?_; first | with_reducible refine BrG.t ?_ | with_reducible refine BrG.f ?_ | with_reducible refine BrG.notG ?_ | with_reducible refine BrG.nn ?_ | with_reducible refine BrG.ns ?_ | refine BrG.pos (by omega) ?_ | refine BrG.neg (by omega) ?_ | with_reducible refine BrG.pos rfl ?_ | refine BrG.pos (by assumption) ?_ | refine BrG.neg (by assumption) ?_) | refine Chk.mk (ptr_ok tblOk rfl rfl) ?_)
    rw [d3]
    repeat (first | refine SemW.run tblOk ?_ | refine IntG.nw (by omega) ?_ | refine IntG.nu8 (by omega) ?_ | refine IntG.nu32 (by omega) ?_ | refine IntG.nu64 (by omega) ?_ | refine IntG.wr' rfl ?_ | refine Chk.mk (by omega) ?_ | (refine BrG.id ?_; first | with_reducible refine BrG.t ?_ | with_reducible refine BrG.f ?_ | with_reducible refine BrG.notG ?_ | with_reducible refine BrG.nn ?_ | with_reducible refine BrG.ns ?_ | refine BrG.pos (by omega) ?_ | refine BrG.neg (by omega) ?_ | with_reducible refine BrG.pos rfl ?_ | refine BrG.pos (by assumption) ?_ | refine BrG.neg (by assumption) ?_) | refine Chk.mk (ptr_ok tblOk rfl rfl) ?_)
    rw [m3]
    repeat (first | refine SemW.run tblOk ?_ | refine IntG.nw (by omega) ?_ | refine IntG.nu8 (by omega) ?_ | refine IntG.nu32 (by omega) ?_ | refine IntG.nu64 (by omega) ?_ | refine IntG.wr' rfl ?_ | refine Chk.mk (by omega) ?_ | (refine BrG.id ?_; first | with_reducible refine BrG.t ?_ | with_reducible refine BrG.f ?_ | with_reducible refine BrG.notG ?_ | with_reducible refine BrG.nn ?_ | with_reducible refine BrG.ns ?_ | refine BrG.pos (by omega) ?_ | refine BrG.neg (by omega) ?_ | with_reducible refine BrG.pos rfl ?_ | refine BrG.pos (by assumption) ?_ | refine BrG.neg (by assumption) ?_) | refine Chk.mk (ptr_ok tblOk rfl rfl) ?_)
    rw [m4]
    repeat (first | refine SemW.run tblOk ?_ | refine IntG.nw (by omega) ?_ | refine IntG.nu8 (by omega) ?_ | refine IntG.nu32 (by omega) ?_ | refine IntG.nu64 (by omega) ?_ | refine IntG.wr' rfl ?_ | refine Chk.mk (by omega) ?_ | (refine BrG.id ?_; first | with_reducible refine BrG.t ?_ | with_reducible refine BrG.f ?_ | with_reducible refine BrG.notG ?_ | with_reducible refine BrG.nn ?_ | with_reducible refine BrG.ns ?_ | refine BrG.pos (by omega) ?_ | refine BrG.neg (by omega) ?_ | with_reducible refine BrG.pos rfl ?_ | refine BrG.pos (by assumption) ?_ | refine BrG.neg (by assumption) ?_) | refine Chk.mk (ptr_ok tblOk rfl rfl) ?_)
    refine hS.al ?_
    intro r4 w8 _ hS
    repeat (first | refine SemW.run tblOk ?_ | refine IntG.nw (by omega) ?_ | refine IntG.nu8 (by omega) ?_ | refine IntG.nu32 (by omega) ?_ | refine IntG.nu64 (by omega) ?_ | refine IntG.wr' rfl ?_ | refine Chk.mk (by omega) ?_ | (refine BrG.id ?_; first | with_reducible refine BrG.t ?_ | with_reducible refine BrG.f ?_ | with_reducible refine BrG.notG ?_ | with_reducible refine BrG.nn ?_ | with_reducible refine BrG.ns ?_ | refine BrG.pos (by omega) ?_ | refine BrG.neg (by omega) ?_ | with_reducible refine BrG.pos rfl ?_ | refine BrG.pos (by assumption) ?_ | refine BrG.neg (by assumption) ?_) | refine Chk.mk (ptr_ok tblOk rfl rfl) ?_)
    refine St.app (sz := 1) (m := 4) tblOk rfl rfl rfl rfl hS hv8 (news := (be4w x).map byteV) rfl (by
      have := hS.arr (b := r4) (T' := []) (by simp)
      rw [hw _ (Nat.mod_lt _ (by omega)), hw _ (Nat.mod_lt _ (by omega))] at this
      rw [← hbe]; exact this) rfl (by show (_ + _) * 1 ≤ _; omega) (by omega) ?_
    intro a' cap' L9 w9 hv9 hS
    rw [← List.map_append, ← hos] at hv9
    have hS := hS.sub (H' := L9) (List.sublist_cons_self _ _)
    repeat (first | refine SemW.run tblOk ?_ | refine IntG.nw (by omega) ?_ | refine IntG.nu8 (by omega) ?_ | refine IntG.nu32 (by omega) ?_ | refine IntG.nu64 (by omega) ?_ | refine IntG.wr' rfl ?_ | refine Chk.mk (by omega) ?_ | (refine BrG.id ?_; first | with_reducible refine BrG.t ?_ | with_reducible refine BrG.f ?_ | with_reducible refine BrG.notG ?_ | with_reducible refine BrG.nn ?_ | with_reducible refine BrG.ns ?_ | refine BrG.pos (by omega) ?_ | refine BrG.neg (by omega) ?_ | with_reducible refine BrG.pos rfl ?_ | refine BrG.pos (by assumption) ?_ | refine BrG.neg (by assumption) ?_) | refine Chk.mk (ptr_ok tblOk rfl rfl) ?_)
    exact ⟨(n + 1, a', cap'), ⟨rfl, rfl, rfl, trivial⟩, ⟨by simp only; omega, L9, hv9, hS⟩, by simp only; omega⟩
  · have hn8 : n = 8 := by omega
    subst hn8
    have hol := outB_len [A, Bv, C, D, E, G, H, I] 8 (by simp)
    repeat (first | refine SemW.run tblOk ?_ | refine IntG.nw (by omega) ?_ | refine IntG.nu8 (by omega) ?_ | refine IntG.nu32 (by omega) ?_ | refine IntG.nu64 (by omega) ?_ | refine IntG.wr' rfl ?_ | refine Chk.mk (by omega) ?_ | (refine BrG.id ?_; first | with_reducible refine BrG.t ?_ | with_reducible refine BrG.f ?_ | with_reducible refine BrG.notG ?_ | with_reducible refine BrG.nn ?_ | with_reducible refine BrG.ns ?_ | refine BrG.pos (by omega) ?_ | refine BrG.neg (by omega) ?_ | with_reducible refine BrG.pos rfl ?_ | refine BrG.pos (by assumption) ?_ | refine BrG.neg (by assumption) ?_) | refine Chk.mk (ptr_ok tblOk rfl rfl) ?_)
    refine toStr (T := []) tblOk rfl rfl rfl rfl rfl rfl (bs := outB [A, Bv, C, D, E, G, H, I] 8) hol (fun w' hw' => by subst hw'; exact hv8.arr hS (by simp)) ?_
    repeat (first | refine SemW.run tblOk ?_ | refine IntG.nw (by omega) ?_ | refine IntG.nu8 (by omega) ?_ | refine IntG.nu32 (by omega) ?_ | refine IntG.nu64 (by omega) ?_ | refine IntG.wr' rfl ?_ | refine Chk.mk (by omega) ?_ | (refine BrG.id ?_; first | with_reducible refine BrG.t ?_ | with_reducible refine BrG.f ?_ | with_reducible refine BrG.notG ?_ | with_reducible refine BrG.nn ?_ | with_reducible refine BrG.ns ?_ | refine BrG.pos (by omega) ?_ | refine BrG.neg (by omega) ?_ | with_reducible refine BrG.pos rfl ?_ | refine BrG.pos (by assumption) ?_ | refine BrG.neg (by assumption) ?_) | refine Chk.mk (ptr_ok tblOk rfl rfl) ?_)
    exact ⟨rfl, hS.nil⟩
theorem xor_take_succ (c : UInt8) (K : Bytes) (i : Nat) (h : i < K.length) : (K.take (i + 1)).map (fun b => b ^^^ c) = (K.take i).map (fun b => b ^^^ c) ++ [K[i] ^^^ c] := by
  rw [List.take_succ_eq_append_getElem h, List.map_append]; rfl
set_option maxHeartbeats 4000000 in
theorem padE_spec {w : World} {key : Bytes} (c : Nat) (hc : c < 256) (hk : key.length ≤ 70368744177664) : Cl Tryd.prog f_tarmacref19_pad [Str key, .int .u8 c] w fun v w' => v = Str ((key64 key).map (fun b => b ^^^ UInt8.ofNat c)) ∧ St w [] [] w' := by
  have hS := St.start w
  refine en_tarmacref19_pad rfl ?_
  by_cases h64 : 64 < key.length
  · have hkey : key64 key = shaB key ++ List.replicate (64 - (shaB key).length) 0 := by unfold key64; rw [if_pos h64]
    have hk0 : (shaB key).length ≤ 64 := by rw [shaB_len]; omega
    repeat (first | refine SemW.run tblOk ?_ | refine IntG.nw (by omega) ?_ | refine IntG.nu8 (by omega) ?_ | refine IntG.nu32 (by omega) ?_ | refine IntG.nu64 (by omega) ?_ | refine IntG.wr' rfl ?_ | refine Chk.mk (by omega) ?_ | (refine BrG.id ?_; first | with_reducible refine BrG.t ?_ | with_reducible refine BrG.f ?_ | with_reducible refine BrG.notG ?_ | with_reducible refine BrG.nn ?_ | with_reducible refine BrG.ns ?_ | refine BrG.pos (by omega) ?_ | refine BrG.neg (by omega) ?_ | with_reducible refine BrG.pos rfl ?_ | refine BrG.pos (by assumption) ?_ | refine BrG.neg (by assumption) ?_) | refine Chk.mk (ptr_ok tblOk rfl rfl) ?_)
    refine Cl.mono (SumE_spec hk) ?_
    rintro _ w1 ⟨rfl, hS'⟩
    have hS := hS.call0 hS'
    obtain ⟨k0, hk0e⟩ : ∃ k0, k0 = shaB key := ⟨_, rfl⟩
    rw [← hk0e] at hkey hk0 ⊢
    have hkl := key64_len key
    repeat (first | refine SemW.run tblOk ?_ | refine IntG.nw (by omega) ?_ | refine IntG.nu8 (by omega) ?_ | refine IntG.nu32 (by omega) ?_ | refine IntG.nu64 (by omega) ?_ | refine IntG.wr' rfl ?_ | refine Chk.mk (by omega) ?_ | (refine BrG.id ?_; first | with_reducible refine BrG.t ?_ | with_reducible refine BrG.f ?_ | with_reducible refine BrG.notG ?_ | with_reducible refine BrG.nn ?_ | with_reducible refine BrG.ns ?_ | refine BrG.pos (by omega) ?_ | refine BrG.neg (by omega) ?_ | with_reducible refine BrG.pos rfl ?_ | refine BrG.pos (by assumption) ?_ | refine BrG.neg (by assumption) ?_) | refine Chk.mk (ptr_ok tblOk rfl rfl) ?_)
    refine SemW.loop (fun x : Nat × Option Addr × Nat => [(0, Str k0), (1, .int .u8 c), (5, .slice x.2.1 x.1 x.2.2), (6, .int .i64 x.1)])
      (fun x w' => x.1 ≤ 64 ∧ ∃ L, Vec T_uint8 1 x.2.1 x.1 x.2.2 (((((key64 key).take x.1).map (fun b => b ^^^ UInt8.ofNat c)) : Bytes).map byteV) L ∧ St w [] L w') (fun x => 64 - x.1) (0, none, 0)
      ⟨rfl, rfl, rfl, rfl, trivial⟩ ⟨Nat.zero_le _, [], Vec.nil, hS.nil⟩ ?_
    rintro ⟨i, a, cap⟩ w3 ⟨hi, L, hv, hS⟩
    simp only at hi hv hS ⊢
    by_cases hil : i < 64
    · have hx := xor_take_succ (UInt8.ofNat c) (key64 key) i (by omega)
      have hx8 := xor8 ((key64 key)[i]'(by omega)) c hc
      by_cases hik : i < (k0).length
      · have hgi : (key64 key)[i]'(by omega) = (k0)[i] := by
          have : (key64 key)[i]? = some ((k0)[i]) := by rw [hkey, List.getElem?_append_left hik]; exact List.getElem?_eq_getElem hik
          exact (List.getElem?_eq_some_iff.1 this).2
        have hgd : (k0).getD ((i : Int)).toNat 0 = (k0)[i] := by simp [hik]
        rw [hgi] at hx8 hx
        repeat (first | refine SemW.run tblOk ?_ | refine IntG.nw (by omega) ?_ | refine IntG.nu8 (by omega) ?_ | refine IntG.nu32 (by omega) ?_ | refine IntG.nu64 (by omega) ?_ | refine IntG.wr' rfl ?_ | refine Chk.mk (by omega) ?_ | (refine BrG.id ?_; first | with_reducible refine BrG.t ?_ | with_reducible refine BrG.f ?_ | with_reducible refine BrG.notG ?_ | with_reducible refine BrG.nn ?_ | with_reducible refine BrG.ns ?_ | refine BrG.pos (by omega) ?_ | refine BrG.neg (by omega) ?_ | with_reducible refine BrG.pos rfl ?_ | refine BrG.pos (by assumption) ?_ | refine BrG.neg (by assumption) ?_) | refine Chk.mk (ptr_ok tblOk rfl rfl) ?_)
        rw [hgd]
        repeat (first | refine SemW.run tblOk ?_ | refine IntG.nw (by omega) ?_ | refine IntG.nu8 (by omega) ?_ | refine IntG.nu32 (by omega) ?_ | refine IntG.nu64 (by omega) ?_ | refine IntG.wr' rfl ?_ | refine Chk.mk (by omega) ?_ | (refine BrG.id ?_; first | with_reducible refine BrG.t ?_ | with_reducible refine BrG.f ?_ | with_reducible refine BrG.notG ?_ | with_reducible refine BrG.nn ?_ | with_reducible refine BrG.ns ?_ | refine BrG.pos (by omega) ?_ | refine BrG.neg (by omega) ?_ | with_reducible refine BrG.pos rfl ?_ | refine BrG.pos (by assumption) ?_ | refine BrG.neg (by assumption) ?_) | refine Chk.mk (ptr_ok tblOk rfl rfl) ?_)
        refine hS.al ?_
        intro r w4 _ hS
        repeat (first | refine SemW.run tblOk ?_ | refine IntG.nw (by omega) ?_ | refine IntG.nu8 (by omega) ?_ | refine IntG.nu32 (by omega) ?_ | refine IntG.nu64 (by omega) ?_ | refine IntG.wr' rfl ?_ | refine Chk.mk (by omega) ?_ | (refine BrG.id ?_; first | with_reducible refine BrG.t ?_ | with_reducible refine BrG.f ?_ | with_reducible refine BrG.notG ?_ | with_reducible refine BrG.nn ?_ | with_reducible refine BrG.ns ?_ | refine BrG.pos (by omega) ?_ | refine BrG.neg (by omega) ?_ | with_reducible refine BrG.pos rfl ?_ | refine BrG.pos (by assumption) ?_ | refine BrG.neg (by assumption) ?_) | refine Chk.mk (ptr_ok tblOk rfl rfl) ?_)
        refine St.app (sz := 1) (m := 1) tblOk rfl rfl rfl rfl hS hv (news := [(k0)[i] ^^^ UInt8.ofNat c].map byteV) rfl (by
          have := hS.arr (b := r) (T' := []) (by simp)
          rw [hx8] at this; exact this) rfl (by show (_ + _) * 1 ≤ _; omega) (by omega) ?_
        intro a' cap' L' w5 hv' hS
        rw [← List.map_append, ← hx] at hv'
        have hS := hS.sub (H' := L') (List.sublist_cons_self _ _)
        repeat (first | refine SemW.run tblOk ?_ | refine IntG.nw (by omega) ?_ | refine IntG.nu8 (by omega) ?_ | refine IntG.nu32 (by omega) ?_ | refine IntG.nu64 (by omega) ?_ | refine IntG.wr' rfl ?_ | refine Chk.mk (by omega) ?_ | (refine BrG.id ?_; first | with_reducible refine BrG.t ?_ | with_reducible refine BrG.f ?_ | with_reducible refine BrG.notG ?_ | with_reducible refine BrG.nn ?_ | with_reducible refine BrG.ns ?_ | refine BrG.pos (by omega) ?_ | refine BrG.neg (by omega) ?_ | with_reducible refine BrG.pos rfl ?_ | refine BrG.pos (by assumption) ?_ | refine BrG.neg (by assumption) ?_) | refine Chk.mk (ptr_ok tblOk rfl rfl) ?_)
        exact ⟨(i + 1, a', cap'), ⟨rfl, rfl, rfl, rfl, trivial⟩, ⟨by simp only; omega, L', hv', hS⟩, by simp only; omega⟩
      · have hgi : (key64 key)[i]'(by omega) = 0 := by
          have : (key64 key)[i]? = some 0 := by rw [hkey, List.getElem?_append_right (by omega), List.getElem?_replicate, if_pos (by omega)]
          exact (List.getElem?_eq_some_iff.1 this).2
        rw [hgi] at hx8 hx
        repeat (first | refine SemW.run tblOk ?_ | refine IntG.nw (by omega) ?_ | refine IntG.nu8 (by omega) ?_ | refine IntG.nu32 (by omega) ?_ | refine IntG.nu64 (by omega) ?_ | refine IntG.wr' rfl ?_ | refine Chk.mk (by omega) ?_ | (refine BrG.id ?_; first | with_reducible refine BrG.t ?_ | with_reducible refine BrG.f ?_ | with_reducible refine BrG.notG ?_ | with_reducible refine BrG.nn ?_ | with_reducible refine BrG.ns ?_ | refine BrG.pos (by omega) ?_ | refine BrG.neg (by omega) ?_ | with_reducible refine BrG.pos rfl ?_ | refine BrG.pos (by assumption) ?_ | refine BrG.neg (by assumption) ?_) | refine Chk.mk (ptr_ok tblOk rfl rfl) ?_)
        refine hS.al ?_
        intro r w4 _ hS
        repeat (first | refine SemW.run tblOk ?_ | refine IntG.nw (by omega) ?_ | refine IntG.nu8 (by omega) ?_ | refine IntG.nu32 (by omega) ?_ | refine IntG.nu64 (by omega) ?_ | refine IntG.wr' rfl ?_ | refine Chk.mk (by omega) ?_ | (refine BrG.id ?_; first | with_reducible refine BrG.t ?_ | with_reducible refine BrG.f ?_ | with_reducible refine BrG.notG ?_ | with_reducible refine BrG.nn ?_ | with_reducible refine BrG.ns ?_ | refine BrG.pos (by omega) ?_ | refine BrG.neg (by omega) ?_ | with_reducible refine BrG.pos rfl ?_ | refine BrG.pos (by assumption) ?_ | refine BrG.neg (by assumption) ?_) | refine Chk.mk (ptr_ok tblOk rfl rfl) ?_)
        refine St.app (sz := 1) (m := 1) tblOk rfl rfl rfl rfl hS hv (news := [(0 : UInt8) ^^^ UInt8.ofNat c].map byteV) rfl (by
          have := hS.arr (b := r) (T' := []) (by simp)
          have h0 : (((0 : UInt8).toNat : Nat) : Int) = 0 := rfl
          rw [h0] at hx8
          rw [hx8] at this; exact this) rfl (by show (_ + _) * 1 ≤ _; omega) (by omega) ?_
        intro a' cap' L' w5 hv' hS
        rw [← List.map_append, ← hx] at hv'
        have hS := hS.sub (H' := L') (List.sublist_cons_self _ _)
        repeat (first | refine SemW.run tblOk ?_ | refine IntG.nw (by omega) ?_ | refine IntG.nu8 (by omega) ?_ | refine IntG.nu32 (by omega) ?_ | refine IntG.nu64 (by omega) ?_ | refine IntG.wr' rfl ?_ | refine Chk.mk (by omega) ?_ | (refine BrG.id ?_; first | with_reducible refine BrG.t ?_ | with_reducible refine BrG.f ?_ | with_reducible refine BrG.notG ?_ | with_reducible refine BrG.nn ?_ | with_reducible refine BrG.ns ?_ | refine BrG.pos (by omega) ?_ | refine BrG.neg (by omega) ?_ | with_reducible refine BrG.pos rfl ?_ | refine BrG.pos (by assumption) ?_ | refine BrG.neg (by assumption) ?_) | refine Chk.mk (ptr_ok tblOk rfl rfl) ?_)
        exact ⟨(i + 1, a', cap'), ⟨rfl, rfl, rfl, rfl, trivial⟩, ⟨by simp only; omega, L', hv', hS⟩, by simp only; omega⟩
    have hi64 : i = 64 := by omega
    subst hi64
    rw [List.take_of_length_le (by omega)] at hv
    repeat (first | refine SemW.run tblOk ?_ | refine IntG.nw (by omega) ?_ | refine IntG.nu8 (by omega) ?_ | refine IntG.nu32 (by omega) ?_ | refine IntG.nu64 (by omega) ?_ | refine IntG.wr' rfl ?_ | refine Chk.mk (by omega) ?_ | (refine BrG.id ?_; first | with_reducible refine BrG.t ?_ | with_reducible refine BrG.f ?_ | with_reducible refine BrG.notG ?_ | with_reducible refine BrG.nn ?_ | with_reducible refine BrG.ns ?_ | refine BrG.pos (by omega) ?_ | refine BrG.neg (by omega) ?_ | with_reducible refine BrG.pos rfl ?_ | refine BrG.pos (by assumption) ?_ | refine BrG.neg (by assumption) ?_) | refine Chk.mk (ptr_ok tblOk rfl rfl) ?_)
    refine toStr (T := []) tblOk rfl rfl rfl rfl rfl rfl (bs := (key64 key).map (fun b => b ^^^ UInt8.ofNat c)) (by rw [List.length_map]; exact hkl) (fun w' hw' => by subst hw'; exact hv.arr hS (by simp)) ?_
    repeat (first | refine SemW.run tblOk ?_ | refine IntG.nw (by omega) ?_ | refine IntG.nu8 (by omega) ?_ | refine IntG.nu32 (by omega) ?_ | refine IntG.nu64 (by omega) ?_ | refine IntG.wr' rfl ?_ | refine Chk.mk (by omega) ?_ | (refine BrG.id ?_; first | with_reducible refine BrG.t ?_ | with_reducible refine BrG.f ?_ | with_reducible refine BrG.notG ?_ | with_reducible refine BrG.nn ?_ | with_reducible refine BrG.ns ?_ | refine BrG.pos (by omega) ?_ | refine BrG.neg (by omega) ?_ | with_reducible refine BrG.pos rfl ?_ | refine BrG.pos (by assumption) ?_ | refine BrG.neg (by assumption) ?_) | refine Chk.mk (ptr_ok tblOk rfl rfl) ?_)
    exact ⟨rfl, hS.nil⟩
  · have hkey : key64 key = key ++ List.replicate (64 - key.length) 0 := by unfold key64; rw [if_neg h64]
    have hk0 : key.length ≤ 64 := by omega
    have hkl := key64_len key
    repeat (first | refine SemW.run tblOk ?_ | refine IntG.nw (by omega) ?_ | refine IntG.nu8 (by omega) ?_ | refine IntG.nu32 (by omega) ?_ | refine IntG.nu64 (by omega) ?_ | refine IntG.wr' rfl ?_ | refine Chk.mk (by omega) ?_ | (refine BrG.id ?_; first | with_reducible refine BrG.t ?_ | with_reducible refine BrG.f ?_ | with_reducible refine BrG.notG ?_ | with_reducible refine BrG.nn ?_ | with_reducible refine BrG.ns ?_ | refine BrG.pos (by omega) ?_ | refine BrG.neg (by omega) ?_ | with_reducible refine BrG.pos rfl ?_ | refine BrG.pos (by assumption) ?_ | refine BrG.neg (by assumption) ?_) | refine Chk.mk (ptr_ok tblOk rfl rfl) ?_)
    refine SemW.loop (fun x : Nat × Option Addr × Nat => [(0, Str key), (1, .int .u8 c), (5, .slice x.2.1 x.1 x.2.2), (6, .int .i64 x.1)])
      (fun x w' => x.1 ≤ 64 ∧ ∃ L, Vec T_uint8 1 x.2.1 x.1 x.2.2 (((((key64 key).take x.1).map (fun b => b ^^^ UInt8.ofNat c)) : Bytes).map byteV) L ∧ St w [] L w') (fun x => 64 - x.1) (0, none, 0)
      ⟨rfl, rfl, rfl, rfl, trivial⟩ ⟨Nat.zero_le _, [], Vec.nil, hS.nil⟩ ?_
    rintro ⟨i, a, cap⟩ w3 ⟨hi, L, hv, hS⟩
    simp only at hi hv hS ⊢
    by_cases hil : i < 64
    · have hx := xor_take_succ (UInt8.ofNat c) (key64 key) i (by omega)
      have hx8 := xor8 ((key64 key)[i]'(by omega)) c hc
      by_cases hik : i < (key).length
      · have hgi : (key64 key)[i]'(by omega) = (key)[i] := by
          have : (key64 key)[i]? = some ((key)[i]) := by rw [hkey, List.getElem?_append_left hik]; exact List.getElem?_eq_getElem hik
          exact (List.getElem?_eq_some_iff.1 this).2
        have hgd : (key).getD ((i : Int)).toNat 0 = (key)[i] := by simp [hik]
        rw [hgi] at hx8 hx
        repeat (first | refine SemW.run tblOk ?_ | refine IntG.nw (by omega) ?_ | refine IntG.nu8 (by omega) ?_ | refine IntG.nu32 (by omega) ?_ | refine IntG.nu64 (by omega) ?_ | refine IntG.wr' rfl ?_ | refine Chk.mk (by omega) ?_ | (refine BrG.id ?_; first | with_reducible refine BrG.t ?_ | with_reducible refine BrG.f ?_ | with_reducible refine BrG.notG ?_ | with_reducible refine BrG.nn ?_ | with_reducible refine BrG.ns ?_ | refine BrG.pos (by omega) ?_ | refine BrG.neg (by omega) ?_ | with_reducible refine BrG.pos rfl ?_ | refine BrG.pos (by assumption) ?_ | refine BrG.neg (by assumption) ?_) | refine Chk.mk (ptr_ok tblOk rfl rfl) ?_)
        rw [hgd]
        repeat (first | refine SemW.run tblOk ?_ | refine IntG.nw (by omega) ?_ | refine IntG.nu8 (by omega) ?_ | refine IntG.nu32 (by omega) ?_ | refine IntG.nu64 (by omega) ?_ | refine IntG.wr' rfl ?_ | refine Chk.mk (by omega) ?_ | (refine BrG.id ?_; first | with_reducible refine BrG.t ?_ | with_reducible refine BrG.f ?_ | with_reducible refine BrG.notG ?_ | with_reducible refine BrG.nn ?_ | with_reducible refine BrG.ns ?_ | refine BrG.pos (by omega) ?_ | refine BrG.neg (by omega) ?_ | with_reducible refine BrG.pos rfl ?_ | refine BrG.pos (by assumption) ?_ | refine BrG.neg (by assumption) ?_) | refine Chk.mk (ptr_ok tblOk rfl rfl) ?_)
        refine hS.al ?_
        intro r w4 _ hS
        repeat (first | refine SemW.run tblOk ?_ | refine IntG.nw (by omega) ?_ | refine IntG.nu8 (by omega) ?_ | refine IntG.nu32 (by omega) ?_ | refine IntG.nu64 (by omega) ?_ | refine IntG.wr' rfl ?_ | refine Chk.mk (by omega) ?_ | (refine BrG.id ?_; first | with_reducible refine BrG.t ?_ | with_reducible refine BrG.f ?_ | with_reducible refine BrG.notG ?_ | with_reducible refine BrG.nn ?_ | with_reducible refine BrG.ns ?_ | refine BrG.pos (by omega) ?_ | refine BrG.neg (by omega) ?_ | with_reducible refine BrG.pos rfl ?_ | refine BrG.pos (by assumption) ?_ | refine BrG.neg (by assumption) ?_) | refine Chk.mk (ptr_ok tblOk rfl rfl) ?_)
        refine St.app (sz := 1) (m := 1) tblOk rfl rfl rfl rfl hS hv (news := [(key)[i] ^^^ UInt8.ofNat c].map byteV) rfl (by
          have := hS.arr (b := r) (T' := []) (by simp)
          rw [hx8] at this; exact this) rfl (by show (_ + _) * 1 ≤ _; omega) (by omega) ?_
        intro a' cap' L' w5 hv' hS
        rw [← List.map_append, ← hx] at hv'
        have hS := hS.sub (H' := L') (List.sublist_cons_self _ _)
        repeat (first | refine SemW.run tblOk ?_ | refine IntG.nw (by omega) ?_ | refine IntG.nu8 (by omega) ?_ | refine IntG.nu32 (by omega) ?_ | refine IntG.nu64 (by omega) ?_ | refine IntG.wr' rfl ?_ | refine Chk.mk (by omega) ?_ | (refine BrG.id ?_; first | with_reducible refine BrG.t ?_ | with_reducible refine BrG.f ?_ | with_reducible refine BrG.notG ?_ | with_reducible refine BrG.nn ?_ | with_reducible refine BrG.ns ?_ | refine BrG.pos (by omega) ?_ | refine BrG.neg (by omega) ?_ | with_reducible refine BrG.pos rfl ?_ | refine BrG.pos (by assumption) ?_ | refine BrG.neg (by assumption) ?_) | refine Chk.mk (ptr_ok tblOk rfl rfl) ?_)
        exact ⟨(i + 1, a', cap'), ⟨rfl, rfl, rfl, rfl, trivial⟩, ⟨by simp only; omega, L', hv', hS⟩, by simp only; omega⟩
      · have hgi : (key64 key)[i]'(by omega) = 0 := by
          have : (key64 key)[i]? = some 0 := by rw [hkey, List.getElem?_append_right (by omega), List.getElem?_replicate, if_pos (by omega)]
          exact (List.getElem?_eq_some_iff.1 this).2
        rw [hgi] at hx8 hx
        repeat (first | refine SemW.run tblOk ?_ | refine IntG.nw (by omega) ?_ | refine IntG.nu8 (by omega) ?_ | refine IntG.nu32 (by omega) ?_ | refine IntG.nu64 (by omega) ?_ | refine IntG.wr' rfl ?_ | refine Chk.mk (by omega) ?_ | (refine BrG.id ?_; first | with_reducible refine BrG.t ?_ | with_reducible refine BrG.f ?_ | with_reducible refine BrG.notG ?_ | with_reducible refine BrG.nn ?_ | with_reducible refine BrG.ns ?_ | refine BrG.pos (by omega) ?_ | refine BrG.neg (by omega) ?_ | with_reducible refine BrG.pos rfl ?_ | refine BrG.pos (by assumption) ?_ | refine BrG.neg (by assumption) ?_) | refine Chk.mk (ptr_ok tblOk rfl rfl) ?_)
        refine hS.al ?_
        intro r w4 _ hS
        repeat (first | refine SemW.run tblOk ?_ | refine IntG.nw (by omega) ?_ | refine IntG.nu8 (by omega) ?_ | refine IntG.nu32 (by omega) ?_ | refine IntG.nu64 (by omega) ?_ | refine IntG.wr' rfl ?_ | refine Chk.mk (by omega) ?_ | (refine BrG.id ?_; first | with_reducible refine BrG.t ?_ | with_reducible refine BrG.f ?_ | with_reducible refine BrG.notG ?_ | with_reducible refine BrG.nn ?_ | with_reducible refine BrG.ns ?_ | refine BrG.pos (by omega) ?_ | refine BrG.neg (by omega) ?_ | with_reducible refine BrG.pos rfl ?_ | refine BrG.pos (by assumption) ?_ | refine BrG.neg (by assumption) ?_) | refine Chk.mk (ptr_ok tblOk rfl rfl) ?_)
        refine St.app (sz := 1) (m := 1) tblOk rfl rfl rfl rfl hS hv (news := [(0 : UInt8) ^^^ UInt8.ofNat c].map byteV) rfl (by
          have := hS.arr (b := r) (T' := []) (by simp)
          have h0 : (((0 : UInt8).toNat : Nat) : Int) = 0 := rfl
          rw [h0] at hx8
          rw [hx8] at this; exact this) rfl (by show (_ + _) * 1 ≤ _; omega) (by omega) ?_
        intro a' cap' L' w5 hv' hS
        rw [← List.map_append, ← hx] at hv'
        have hS := hS.sub (H' := L') (List.sublist_cons_self _ _)
        repeat (first | refine SemW.run tblOk ?_ | refine IntG.nw (by omega) ?_ | refine IntG.nu8 (by omega) ?_ | refine IntG.nu32 (by omega) ?_ | refine IntG.nu64 (by omega) ?_ | refine IntG.wr' rfl ?_ | refine Chk.mk (by omega) ?_ | (refine BrG.id ?_; first | with_reducible refine BrG.t ?_ | with_reducible refine BrG.f ?_ | with_reducible refine BrG.notG ?_ | with_reducible refine BrG.nn ?_ | with_reducible refine BrG.ns ?_ | refine BrG.pos (by omega) ?_ | refine BrG.neg (by omega) ?_ | with_reducible refine BrG.pos rfl ?_ | refine BrG.pos (by assumption) ?_ | refine BrG.neg (by assumption) ?_) | refine Chk.mk (ptr_ok tblOk rfl rfl) ?_)
        exact ⟨(i + 1, a', cap'), ⟨rfl, rfl, rfl, rfl, trivial⟩, ⟨by simp only; omega, L', hv', hS⟩, by simp only; omega⟩
    have hi64 : i = 64 := by omega
    subst hi64
    rw [List.take_of_length_le (by omega)] at hv
    repeat (first | refine SemW.run tblOk ?_ | refine IntG.nw (by omega) ?_ | refine IntG.nu8 (by omega) ?_ | refine IntG.nu32 (by omega) ?_ | refine IntG.nu64 (by omega) ?_ | refine IntG.wr' rfl ?_ | refine Chk.mk (by omega) ?_ | (refine BrG.id ?_; first | with_reducible refine BrG.t ?_ | with_reducible refine BrG.f ?_ | with_reducible refine BrG.notG ?_ | with_reducible refine BrG.nn ?_ | with_reducible refine BrG.ns ?_ | refine BrG.pos (by omega) ?_ | refine BrG.neg (by omega) ?_ | with_reducible refine BrG.pos rfl ?_ | refine BrG.pos (by assumption) ?_ | refine BrG.neg (by assumption) ?_) | refine Chk.mk (ptr_ok tblOk rfl rfl) ?_)
    refine toStr (T := []) tblOk rfl rfl rfl rfl rfl rfl (bs := (key64 key).map (fun b => b ^^^ UInt8.ofNat c)) (by rw [List.length_map]; exact hkl) (fun w' hw' => by subst hw'; exact hv.arr hS (by simp)) ?_
    repeat (first | refine SemW.run tblOk ?_ | refine IntG.nw (by omega) ?_ | refine IntG.nu8 (by omega) ?_ | refine IntG.nu32 (by omega) ?_ | refine IntG.nu64 (by omega) ?_ | refine IntG.wr' rfl ?_ | refine Chk.mk (by omega) ?_ | (refine BrG.id ?_; first | with_reducible refine BrG.t ?_ | with_reducible refine BrG.f ?_ | with_reducible refine BrG.notG ?_ | with_reducible refine BrG.nn ?_ | with_reducible refine BrG.ns ?_ | refine BrG.pos (by omega) ?_ | refine BrG.neg (by omega) ?_ | with_reducible refine BrG.pos rfl ?_ | refine BrG.pos (by assumption) ?_ | refine BrG.neg (by assumption) ?_) | refine Chk.mk (ptr_ok tblOk rfl rfl) ?_)
    exact ⟨rfl, hS.nil⟩
theorem MacE_spec {w : World} {key t : Bytes} (hk : key.length ≤ 70368744177664) (ht : t.length + 64 ≤ 70368744177664) : Cl Tryd.prog f_tarmacref19_Mac [Str key, Str t] w fun v w' => v = Str (macB key t) ∧ St w [] [] w' := by
  have hS := St.start w
  have hkl := key64_len key
  have hl5 : ((key64 key).map (fun b => b ^^^ UInt8.ofNat 92)).length = 64 := by rw [List.length_map]; exact hkl
  have hl3 : ((key64 key).map (fun b => b ^^^ UInt8.ofNat 54)).length = 64 := by rw [List.length_map]; exact hkl
  refine en_tarmacref19_Mac rfl ?_
  repeat (first | refine SemW.run tblOk ?_ | refine IntG.nw (by omega) ?_ | refine IntG.nu8 (by omega) ?_ | refine IntG.nu32 (by omega) ?_ | refine IntG.nu64 (by omega) ?_ | refine IntG.wr' rfl ?_ | refine Chk.mk (by omega) ?_ | (refine BrG.id ?_; first | with_reducible refine BrG.t ?_ | with_reducible refine BrG.f ?_ | with_reducible refine BrG.notG ?_ | with_reducible refine BrG.nn ?_ | with_reducible refine BrG.ns ?_ | refine BrG.pos (by omega) ?_ | refine BrG.neg (by omega) ?_ | with_reducible refine BrG.pos rfl ?_ | refine BrG.pos (by assumption) ?_ | refine BrG.neg (by assumption) ?_) | refine Chk.mk (ptr_ok tblOk rfl rfl) ?_)
  refine Cl.mono (padE_spec 92 (by omega) hk) ?_
  rintro _ w1 ⟨rfl, hS'⟩
  have hS := hS.call0 hS'
  repeat (first | refine SemW.run tblOk ?_ | refine IntG.nw (by omega) ?_ | refine IntG.nu8 (by omega) ?_ | refine IntG.nu32 (by omega) ?_ | refine IntG.nu64 (by omega) ?_ | refine IntG.wr' rfl ?_ | refine Chk.mk (by omega) ?_ | (refine BrG.id ?_; first | with_reducible refine BrG.t ?_ | with_reducible refine BrG.f ?_ | with_reducible refine BrG.notG ?_ | with_reducible refine BrG.nn ?_ | with_reducible refine BrG.ns ?_ | refine BrG.pos (by omega) ?_ | refine BrG.neg (by omega) ?_ | with_reducible refine BrG.pos rfl ?_ | refine BrG.pos (by assumption) ?_ | refine BrG.neg (by assumption) ?_) | refine Chk.mk (ptr_ok tblOk rfl rfl) ?_)
  refine Cl.mono (padE_spec 54 (by omega) hk) ?_
  rintro _ w2 ⟨rfl, hS'⟩
  have hS := hS.call0 hS'
  unfold macB
  rw [show (0x36 : UInt8) = UInt8.ofNat 54 from rfl, show (0x5c : UInt8) = UInt8.ofNat 92 from rfl]
  generalize (key64 key).map (fun b => b ^^^ UInt8.ofNat 92) = k5 at *
  generalize (key64 key).map (fun b => b ^^^ UInt8.ofNat 54) = k3 at *
  have hla : (k3 ++ t).length = 64 + t.length := by rw [List.length_append, hl3]
  have hls := shaB_len (k3 ++ t)
  have hlb : (k5 ++ shaB (k3 ++ t)).length = 96 := by rw [List.length_append, hl5, hls]
  repeat (first | refine SemW.run tblOk ?_ | refine IntG.nw (by omega) ?_ | refine IntG.nu8 (by omega) ?_ | refine IntG.nu32 (by omega) ?_ | refine IntG.nu64 (by omega) ?_ | refine IntG.wr' rfl ?_ | refine Chk.mk (by omega) ?_ | (refine BrG.id ?_; first | with_reducible refine BrG.t ?_ | with_reducible refine BrG.f ?_ | with_reducible refine BrG.notG ?_ | with_reducible refine BrG.nn ?_ | with_reducible refine BrG.ns ?_ | refine BrG.pos (by omega) ?_ | refine BrG.neg (by omega) ?_ | with_reducible refine BrG.pos rfl ?_ | refine BrG.pos (by assumption) ?_ | refine BrG.neg (by assumption) ?_) | refine Chk.mk (ptr_ok tblOk rfl rfl) ?_)
  refine Cl.mono (SumE_spec (by omega)) ?_
  rintro _ w3 ⟨rfl, hS'⟩
  have hS := hS.call0 hS'
  repeat (first | refine SemW.run tblOk ?_ | refine IntG.nw (by omega) ?_ | refine IntG.nu8 (by omega) ?_ | refine IntG.nu32 (by omega) ?_ | refine IntG.nu64 (by omega) ?_ | refine IntG.wr' rfl ?_ | refine Chk.mk (by omega) ?_ | (refine BrG.id ?_; first | with_reducible refine BrG.t ?_ | with_reducible refine BrG.f ?_ | with_reducible refine BrG.notG ?_ | with_reducible refine BrG.nn ?_ | with_reducible refine BrG.ns ?_ | refine BrG.pos (by omega) ?_ | refine BrG.neg (by omega) ?_ | with_reducible refine BrG.pos rfl ?_ | refine BrG.pos (by assumption) ?_ | refine BrG.neg (by assumption) ?_) | refine Chk.mk (ptr_ok tblOk rfl rfl) ?_)
  refine Cl.mono (SumE_spec (by omega)) ?_
  rintro _ w4 ⟨rfl, hS'⟩
  have hS := hS.call0 hS'
  repeat (first | refine SemW.run tblOk ?_ | refine IntG.nw (by omega) ?_ | refine IntG.nu8 (by omega) ?_ | refine IntG.nu32 (by omega) ?_ | refine IntG.nu64 (by omega) ?_ | refine IntG.wr' rfl ?_ | refine Chk.mk (by omega) ?_ | (refine BrG.id ?_; first | with_reducible refine BrG.t ?_ | with_reducible refine BrG.f ?_ | with_reducible refine BrG.notG ?_ | with_reducible refine BrG.nn ?_ | with_reducible refine BrG.ns ?_ | refine BrG.pos (by omega) ?_ | refine BrG.neg (by omega) ?_ | with_reducible refine BrG.pos rfl ?_ | refine BrG.pos (by assumption) ?_ | refine BrG.neg (by assumption) ?_) | refine Chk.mk (ptr_ok tblOk rfl rfl) ?_)
  exact ⟨rfl, hS⟩
end Go.Proofs.YtklppplnkpnbhaaDoor
