/- Package tag: end, Sum, Mac. -/
import Derived.Test.YtklppplnkpnbhaaDoorTagSum
namespace Go.Proofs.YtklppplnkpnbhaaDoor
open Go Go.Eng Go.Proofs

theorem be8_get (n j : Nat) (hj : j < 8) : (be8 n)[j]? = some (UInt8.ofNat (n / 2 ^ (56 - 8 * j))) := by
  match j, hj with
  | 0, _ => rfl
  | 1, _ => rfl
  | 2, _ => rfl
  | 3, _ => rfl
  | 4, _ => rfl
  | 5, _ => rfl
  | 6, _ => rfl
  | 7, _ => simp [be8]
theorem take_snoc (l : Bytes) (j : Nat) (x : UInt8) (h : l[j]? = some x) : l.take (j + 1) = l.take j ++ [x] := by
  obtain ⟨hj, rfl⟩ := List.getElem?_eq_some_iff.1 h
  exact List.take_succ_eq_append_getElem hj
def outB (h : List Nat) (k : Nat) : Bytes := ((h.take k).map be4w).flatten
theorem outB_succ (h : List Nat) (k : Nat) (hk : k < h.length) : outB h (k + 1) = outB h k ++ be4w (h.getD k 0) := by
  unfold outB
  rw [List.take_succ_eq_append_getElem hk, List.map_append, List.flatten_append]
  simp [hk]
theorem outB_len (h : List Nat) (k : Nat) (hk : k ≤ h.length) : (outB h k).length = 4 * k := by
  induction k with
  | zero => simp [outB]
  | succ k ih => rw [outB_succ h k (by omega), List.length_append, ih (by omega)]; simp [be4w]; omega
theorem pad_len (t : Bytes) (k : Nat) : (t ++ (128 :: List.replicate k 0) : Bytes).length = t.length + 1 + k := by simp; omega

set_option maxHeartbeats 4000000 in
set_option maxRecDepth 4000 in
theorem end_spec {w : World} {B : Nat} {t : Bytes} {L : Heap} (hD : Dig B t L) (hh : Holds L w) (hlen : t.length ≤ 70368744177664) :
    Cl Tryd.prog f_tag_digest_end [ptr B] w fun v w' => v = Str (shaB t) ∧ St w (keys L) [] w' := by
  have hS := St.enter hh
  generalize hT : keys L = T0 at hS ⊢
  have hz : zerosFor t.length = (119 - t.length % 64) % 64 := rfl
  have hD2 := hD
  obtain ⟨a0, c0, n0, L0, hn0, hv⟩ := hD
  have hhl := hashN_len t (t.length / 64)
  refine en_tag_digest_end rfl ?_
  have hS2 := hS
  unfold digC at hS2
  repeat (first | refine SemW.run tblOk ?_ | refine IntG.nw (by omega) ?_ | refine IntG.nu8 (by omega) ?_ | refine IntG.nu32 (by omega) ?_ | refine IntG.nu64 (by omega) ?_ | refine IntG.wr' rfl ?_ | refine Chk.mk (by omega) ?_ | (refine BrG.id ?_; first | with_reducible refine BrG.t ?_ | with_reducible refine BrG.f ?_ | with_reducible refine BrG.notG ?_ | with_reducible refine BrG.nn ?_ | with_reducible refine BrG.ns ?_ | refine BrG.pos (by omega) ?_ | refine BrG.neg (by omega) ?_ | with_reducible refine BrG.pos rfl ?_ | refine BrG.pos (by assumption) ?_ | refine BrG.neg (by assumption) ?_ | refine BrG.pos (by decide) ?_ | refine BrG.neg (by decide) ?_) | refine Chk.mk (ptr_ok tblOk rfl rfl) ?_ | refine Chk.mk (by decide) ?_)
  refine hS2.ld (v := .int .u64 t.length) (dig_n _ hhl _ _) ?_
  clear hS2
  generalize hL : (B, digC (hashN t (t.length / 64)) [.slice a0 n0 c0, .int .u64 t.length]) :: L0 = L at hS hD2
  repeat (first | refine SemW.run tblOk ?_ | refine IntG.nw (by omega) ?_ | refine IntG.nu8 (by omega) ?_ | refine IntG.nu32 (by omega) ?_ | refine IntG.nu64 (by omega) ?_ | refine IntG.wr' rfl ?_ | refine Chk.mk (by omega) ?_ | (refine BrG.id ?_; first | with_reducible refine BrG.t ?_ | with_reducible refine BrG.f ?_ | with_reducible refine BrG.notG ?_ | with_reducible refine BrG.nn ?_ | with_reducible refine BrG.ns ?_ | refine BrG.pos (by omega) ?_ | refine BrG.neg (by omega) ?_ | with_reducible refine BrG.pos rfl ?_ | refine BrG.pos (by assumption) ?_ | refine BrG.neg (by assumption) ?_ | refine BrG.pos (by decide) ?_ | refine BrG.neg (by decide) ?_) | refine Chk.mk (ptr_ok tblOk rfl rfl) ?_ | refine Chk.mk (by decide) ?_)
  refine hS.al ?_
  intro r w1 _ hS
  repeat (first | refine SemW.run tblOk ?_ | refine IntG.nw (by omega) ?_ | refine IntG.nu8 (by omega) ?_ | refine IntG.nu32 (by omega) ?_ | refine IntG.nu64 (by omega) ?_ | refine IntG.wr' rfl ?_ | refine Chk.mk (by omega) ?_ | (refine BrG.id ?_; first | with_reducible refine BrG.t ?_ | with_reducible refine BrG.f ?_ | with_reducible refine BrG.notG ?_ | with_reducible refine BrG.nn ?_ | with_reducible refine BrG.ns ?_ | refine BrG.pos (by omega) ?_ | refine BrG.neg (by omega) ?_ | with_reducible refine BrG.pos rfl ?_ | refine BrG.pos (by assumption) ?_ | refine BrG.neg (by assumption) ?_ | refine BrG.pos (by decide) ?_ | refine BrG.neg (by decide) ?_) | refine Chk.mk (ptr_ok tblOk rfl rfl) ?_ | refine Chk.mk (by decide) ?_)
  refine Cl.mono (dadd_spec hD2 (hS.part (L := L)) (xs := [UInt8.ofNat 128]) (hS.arr (b := r) (nodup_new hS)) (by simp; omega)) ?_
  rintro _ w2 ⟨L1, hD1, hS'⟩
  have hS := (hS.call (L := L) hS').sub (List.sublist_cons_self _ _)
  repeat (first | refine SemW.run tblOk ?_ | refine IntG.nw (by omega) ?_ | refine IntG.nu8 (by omega) ?_ | refine IntG.nu32 (by omega) ?_ | refine IntG.nu64 (by omega) ?_ | refine IntG.wr' rfl ?_ | refine Chk.mk (by omega) ?_ | (refine BrG.id ?_; first | with_reducible refine BrG.t ?_ | with_reducible refine BrG.f ?_ | with_reducible refine BrG.notG ?_ | with_reducible refine BrG.nn ?_ | with_reducible refine BrG.ns ?_ | refine BrG.pos (by omega) ?_ | refine BrG.neg (by omega) ?_ | with_reducible refine BrG.pos rfl ?_ | refine BrG.pos (by assumption) ?_ | refine BrG.neg (by assumption) ?_ | refine BrG.pos (by decide) ?_ | refine BrG.neg (by decide) ?_) | refine Chk.mk (ptr_ok tblOk rfl rfl) ?_ | refine Chk.mk (by decide) ?_)
  refine SemW.loop (fun _ : Nat => [(0, ptr B), (3, .int .u64 (8 * t.length : Nat))])
    (fun k w' => k ≤ zerosFor t.length ∧ ∃ L, Dig B (t ++ (128 :: List.replicate k 0)) L ∧ St w T0 L w') (fun k => zerosFor t.length - k) 0
    ⟨rfl, rfl, trivial⟩ ⟨Nat.zero_le _, L1, hD1, hS⟩ ?_
  rintro k w3 ⟨hk, L2, hD, hS⟩
  have hpl := pad_len t k
  have hD0 := hD
  obtain ⟨a2, c2, n2, L3, hn2, hv2⟩ := hD
  have hhl2 := hashN_len (t ++ (128 :: List.replicate k 0)) ((t ++ (128 :: List.replicate k 0) : Bytes).length / 64)
  have hS2 := hS
  unfold digC at hS2
  by_cases hke : k < zerosFor t.length
  · have hne : n2 ≠ 56 := by omega
    repeat (first | refine SemW.run tblOk ?_ | refine IntG.nw (by omega) ?_ | refine IntG.nu8 (by omega) ?_ | refine IntG.nu32 (by omega) ?_ | refine IntG.nu64 (by omega) ?_ | refine IntG.wr' rfl ?_ | refine Chk.mk (by omega) ?_ | (refine BrG.id ?_; first | with_reducible refine BrG.t ?_ | with_reducible refine BrG.f ?_ | with_reducible refine BrG.notG ?_ | with_reducible refine BrG.nn ?_ | with_reducible refine BrG.ns ?_ | refine BrG.pos (by omega) ?_ | refine BrG.neg (by omega) ?_ | with_reducible refine BrG.pos rfl ?_ | refine BrG.pos (by assumption) ?_ | refine BrG.neg (by assumption) ?_ | refine BrG.pos (by decide) ?_ | refine BrG.neg (by decide) ?_) | refine Chk.mk (ptr_ok tblOk rfl rfl) ?_ | refine Chk.mk (by decide) ?_)
    refine hS2.ld (v := .slice a2 n2 c2) (dig_rest _ hhl2 _ _) ?_
    clear hS2
    generalize hL2 : (B, digC (hashN (t ++ (128 :: List.replicate k 0)) ((t ++ (128 :: List.replicate k 0) : Bytes).length / 64)) [.slice a2 n2 c2, .int .u64 (t ++ (128 :: List.replicate k 0) : Bytes).length]) :: L3 = L2 at hS hD0
    repeat (first | refine SemW.run tblOk ?_ | refine IntG.nw (by omega) ?_ | refine IntG.nu8 (by omega) ?_ | refine IntG.nu32 (by omega) ?_ | refine IntG.nu64 (by omega) ?_ | refine IntG.wr' rfl ?_ | refine Chk.mk (by omega) ?_ | (refine BrG.id ?_; first | with_reducible refine BrG.t ?_ | with_reducible refine BrG.f ?_ | with_reducible refine BrG.notG ?_ | with_reducible refine BrG.nn ?_ | with_reducible refine BrG.ns ?_ | refine BrG.pos (by omega) ?_ | refine BrG.neg (by omega) ?_ | with_reducible refine BrG.pos rfl ?_ | refine BrG.pos (by assumption) ?_ | refine BrG.neg (by assumption) ?_ | refine BrG.pos (by decide) ?_ | refine BrG.neg (by decide) ?_) | refine Chk.mk (ptr_ok tblOk rfl rfl) ?_ | refine Chk.mk (by decide) ?_)
    refine hS.al ?_
    intro r2 w4 _ hS
    repeat (first | refine SemW.run tblOk ?_ | refine IntG.nw (by omega) ?_ | refine IntG.nu8 (by omega) ?_ | refine IntG.nu32 (by omega) ?_ | refine IntG.nu64 (by omega) ?_ | refine IntG.wr' rfl ?_ | refine Chk.mk (by omega) ?_ | (refine BrG.id ?_; first | with_reducible refine BrG.t ?_ | with_reducible refine BrG.f ?_ | with_reducible refine BrG.notG ?_ | with_reducible refine BrG.nn ?_ | with_reducible refine BrG.ns ?_ | refine BrG.pos (by omega) ?_ | refine BrG.neg (by omega) ?_ | with_reducible refine BrG.pos rfl ?_ | refine BrG.pos (by assumption) ?_ | refine BrG.neg (by assumption) ?_ | refine BrG.pos (by decide) ?_ | refine BrG.neg (by decide) ?_) | refine Chk.mk (ptr_ok tblOk rfl rfl) ?_ | refine Chk.mk (by decide) ?_)
    refine Cl.mono (dadd_spec hD0 (hS.part (L := L2)) (xs := [UInt8.ofNat 0]) (hS.arr (b := r2) (nodup_new hS)) (by rw [hpl]; simp; omega)) ?_
    rintro _ w5 ⟨L4, hD4, hS'⟩
    have hS := (hS.call (L := L2) hS').sub (List.sublist_cons_self _ _)
    repeat (first | refine SemW.run tblOk ?_ | refine IntG.nw (by omega) ?_ | refine IntG.nu8 (by omega) ?_ | refine IntG.nu32 (by omega) ?_ | refine IntG.nu64 (by omega) ?_ | refine IntG.wr' rfl ?_ | refine Chk.mk (by omega) ?_ | (refine BrG.id ?_; first | with_reducible refine BrG.t ?_ | with_reducible refine BrG.f ?_ | with_reducible refine BrG.notG ?_ | with_reducible refine BrG.nn ?_ | with_reducible refine BrG.ns ?_ | refine BrG.pos (by omega) ?_ | refine BrG.neg (by omega) ?_ | with_reducible refine BrG.pos rfl ?_ | refine BrG.pos (by assumption) ?_ | refine BrG.neg (by assumption) ?_ | refine BrG.pos (by decide) ?_ | refine BrG.neg (by decide) ?_) | refine Chk.mk (ptr_ok tblOk rfl rfl) ?_ | refine Chk.mk (by decide) ?_)
    refine ⟨k + 1, ⟨rfl, rfl, trivial⟩, ⟨by omega, L4, ?_, hS⟩, by omega⟩
    have e : t ++ (128 :: List.replicate k 0) ++ [UInt8.ofNat 0] = t ++ (128 :: List.replicate (k + 1) 0) := by
      rw [List.replicate_succ', List.append_assoc]; rfl
    rw [← e]; exact hD4
  · have hke : k = zerosFor t.length := by omega
    have hn56 : n2 = 56 := by omega
    subst hke
    repeat (first | refine SemW.run tblOk ?_ | refine IntG.nw (by omega) ?_ | refine IntG.nu8 (by omega) ?_ | refine IntG.nu32 (by omega) ?_ | refine IntG.nu64 (by omega) ?_ | refine IntG.wr' rfl ?_ | refine Chk.mk (by omega) ?_ | (refine BrG.id ?_; first | with_reducible refine BrG.t ?_ | with_reducible refine BrG.f ?_ | with_reducible refine BrG.notG ?_ | with_reducible refine BrG.nn ?_ | with_reducible refine BrG.ns ?_ | refine BrG.pos (by omega) ?_ | refine BrG.neg (by omega) ?_ | with_reducible refine BrG.pos rfl ?_ | refine BrG.pos (by assumption) ?_ | refine BrG.neg (by assumption) ?_ | refine BrG.pos (by decide) ?_ | refine BrG.neg (by decide) ?_) | refine Chk.mk (ptr_ok tblOk rfl rfl) ?_ | refine Chk.mk (by decide) ?_)
    refine hS2.ld (v := .slice a2 n2 c2) (dig_rest _ hhl2 _ _) ?_
    clear hS2
    generalize hL2 : (B, digC (hashN (t ++ (128 :: List.replicate (zerosFor t.length) 0)) ((t ++ (128 :: List.replicate (zerosFor t.length) 0) : Bytes).length / 64)) [.slice a2 n2 c2, .int .u64 (t ++ (128 :: List.replicate (zerosFor t.length) 0) : Bytes).length]) :: L3 = L2 at hS hD0
    have hfl : t ++ (128 :: List.replicate (zerosFor t.length) 0) ++ be8 (8 * t.length) = filled t := by unfold filled; rfl
    generalize t ++ (128 :: List.replicate (zerosFor t.length) 0) = u at hD0 hpl hfl hn2
    have hzl : zerosFor t.length < 64 := by rw [hz]; omega
    clear hv2 hhl2 hL2 hn2
    repeat (first | refine SemW.run tblOk ?_ | refine IntG.nw (by omega) ?_ | refine IntG.nu8 (by omega) ?_ | refine IntG.nu32 (by omega) ?_ | refine IntG.nu64 (by omega) ?_ | refine IntG.wr' rfl ?_ | refine Chk.mk (by omega) ?_ | (refine BrG.id ?_; first | with_reducible refine BrG.t ?_ | with_reducible refine BrG.f ?_ | with_reducible refine BrG.notG ?_ | with_reducible refine BrG.nn ?_ | with_reducible refine BrG.ns ?_ | refine BrG.pos (by omega) ?_ | refine BrG.neg (by omega) ?_ | with_reducible refine BrG.pos rfl ?_ | refine BrG.pos (by assumption) ?_ | refine BrG.neg (by assumption) ?_ | refine BrG.pos (by decide) ?_ | refine BrG.neg (by decide) ?_) | refine Chk.mk (ptr_ok tblOk rfl rfl) ?_ | refine Chk.mk (by decide) ?_)
    refine SemW.loop (fun j : Nat => [(0, ptr B), (3, .int .u64 (8 * t.length : Nat)), (4, .int .i64 (56 - 8 * (j : Int)))])
      (fun j w' => j ≤ 8 ∧ ∃ L, Dig B (u ++ (be8 (8 * t.length)).take j) L ∧ St w T0 L w') (fun j => 8 - j) 0
      ⟨rfl, rfl, rfl, trivial⟩ ⟨Nat.zero_le _, L2, by simpa using hD0, hS⟩ ?_
    rintro j w6 ⟨hj, L5, hD5, hS⟩
    by_cases hjl : j < 8
    · have hb := take_snoc _ j _ (be8_get (8 * t.length) j hjl)
      have hsh : (56 - 8 * (j : Int)) = ((56 - 8 * j : Nat) : Int) := by omega
      have hbv : IntKind.u8.wrap (((8 * t.length : Nat) : Int).fdiv (2 ^ min (56 - 8 * (j : Int)).toNat IntKind.u64.bits)) = (((UInt8.ofNat (8 * t.length / 2 ^ (56 - 8 * j))).toNat : Nat) : Int) := by
        rw [show min (56 - 8 * (j : Int)).toNat IntKind.u64.bits = 56 - 8 * j by show min _ 64 = _; omega, fdivP, u8wrap]
      have hul : (u ++ (be8 (8 * t.length)).take j).length ≤ u.length + 8 := by
        rw [List.length_append, List.length_take]; simp [be8]; omega
      repeat (first | refine SemW.run tblOk ?_ | refine IntG.nw (by omega) ?_ | refine IntG.nu8 (by omega) ?_ | refine IntG.nu32 (by omega) ?_ | refine IntG.nu64 (by omega) ?_ | refine IntG.wr' rfl ?_ | refine Chk.mk (by omega) ?_ | (refine BrG.id ?_; first | with_reducible refine BrG.t ?_ | with_reducible refine BrG.f ?_ | with_reducible refine BrG.notG ?_ | with_reducible refine BrG.nn ?_ | with_reducible refine BrG.ns ?_ | refine BrG.pos (by omega) ?_ | refine BrG.neg (by omega) ?_ | with_reducible refine BrG.pos rfl ?_ | refine BrG.pos (by assumption) ?_ | refine BrG.neg (by assumption) ?_ | refine BrG.pos (by decide) ?_ | refine BrG.neg (by decide) ?_) | refine Chk.mk (ptr_ok tblOk rfl rfl) ?_ | refine Chk.mk (by decide) ?_)
      refine hS.al ?_
      intro r3 w7 _ hS
      repeat (first | refine SemW.run tblOk ?_ | refine IntG.nw (by omega) ?_ | refine IntG.nu8 (by omega) ?_ | refine IntG.nu32 (by omega) ?_ | refine IntG.nu64 (by omega) ?_ | refine IntG.wr' rfl ?_ | refine Chk.mk (by omega) ?_ | (refine BrG.id ?_; first | with_reducible refine BrG.t ?_ | with_reducible refine BrG.f ?_ | with_reducible refine BrG.notG ?_ | with_reducible refine BrG.nn ?_ | with_reducible refine BrG.ns ?_ | refine BrG.pos (by omega) ?_ | refine BrG.neg (by omega) ?_ | with_reducible refine BrG.pos rfl ?_ | refine BrG.pos (by assumption) ?_ | refine BrG.neg (by assumption) ?_ | refine BrG.pos (by decide) ?_ | refine BrG.neg (by decide) ?_) | refine Chk.mk (ptr_ok tblOk rfl rfl) ?_ | refine Chk.mk (by decide) ?_)
      refine Cl.mono (dadd_spec hD5 (hS.part (L := L5)) (xs := [UInt8.ofNat (8 * t.length / 2 ^ (56 - 8 * j))]) (by have := hS.arr (b := r3) (nodup_new hS); rw [hbv] at this; exact this) (by simp only [List.length_singleton]; omega)) ?_
      rintro _ w8 ⟨L6, hD6, hS'⟩
      have hS := (hS.call (L := L5) hS').sub (List.sublist_cons_self _ _)
      rw [List.append_assoc, ← hb] at hD6
      repeat (first | refine SemW.run tblOk ?_ | refine IntG.nw (by omega) ?_ | refine IntG.nu8 (by omega) ?_ | refine IntG.nu32 (by omega) ?_ | refine IntG.nu64 (by omega) ?_ | refine IntG.wr' rfl ?_ | refine Chk.mk (by omega) ?_ | (refine BrG.id ?_; first | with_reducible refine BrG.t ?_ | with_reducible refine BrG.f ?_ | with_reducible refine BrG.notG ?_ | with_reducible refine BrG.nn ?_ | with_reducible refine BrG.ns ?_ | refine BrG.pos (by omega) ?_ | refine BrG.neg (by omega) ?_ | with_reducible refine BrG.pos rfl ?_ | refine BrG.pos (by assumption) ?_ | refine BrG.neg (by assumption) ?_ | refine BrG.pos (by decide) ?_ | refine BrG.neg (by decide) ?_) | refine Chk.mk (ptr_ok tblOk rfl rfl) ?_ | refine Chk.mk (by decide) ?_)
      refine ⟨j + 1, ⟨rfl, rfl, ?_, trivial⟩, ⟨by omega, L6, hD6, hS⟩, by omega⟩
      show _ = (_ : Value)
      rw [show (56 - 8 * ((j + 1 : Nat) : Int)) = 56 - 8 * (j : Int) - 8 by omega]
    · have hj8 : j = 8 := by omega
      subst hj8
      have hD5 : Dig B (filled t) L5 := by rw [← hfl]; exact hD5
      obtain ⟨a5, c5, n5, L7, -, -⟩ := hD5
      have h8 := hashN_len (filled t) ((filled t).length / 64)
      have h8t := hashN_lt (filled t) ((filled t).length / 64)
      unfold shaB
      generalize hashN (filled t) ((filled t).length / 64) = h at hS h8 h8t ⊢
      have hout : ((h.map be4w).flatten) = outB h 8 := by unfold outB; rw [List.take_of_length_le (by omega)]
      rw [hout]
      have hS := hS.sub (H' := (B, digC h [.slice a5 n5 c5, .int .u64 (filled t).length]) :: []) (List.Sublist.cons_cons _ (List.nil_sublist _))
      obtain ⟨A, Bv, C, D, E, F, G, Hh, rfl⟩ := eight h h8
      have hS : St w T0 ((B, .cells ⟨[A, Bv, C, D, E, F, G, Hh].map u32V ++ (kList.map u32V ++ [.slice a5 n5 c5, .int .u64 (filled t).length])⟩ T_tag_digest (0, 0)) :: []) w6 := hS
      repeat (first | refine SemW.run tblOk ?_ | refine IntG.nw (by omega) ?_ | refine IntG.nu8 (by omega) ?_ | refine IntG.nu32 (by omega) ?_ | refine IntG.nu64 (by omega) ?_ | refine IntG.wr' rfl ?_ | refine Chk.mk (by omega) ?_ | (refine BrG.id ?_; first | with_reducible refine BrG.t ?_ | with_reducible refine BrG.f ?_ | with_reducible refine BrG.notG ?_ | with_reducible refine BrG.nn ?_ | with_reducible refine BrG.ns ?_ | refine BrG.pos (by omega) ?_ | refine BrG.neg (by omega) ?_ | with_reducible refine BrG.pos rfl ?_ | refine BrG.pos (by assumption) ?_ | refine BrG.neg (by assumption) ?_ | refine BrG.pos (by decide) ?_ | refine BrG.neg (by decide) ?_) | refine Chk.mk (ptr_ok tblOk rfl rfl) ?_ | refine Chk.mk (by decide) ?_)
      refine hS.ldn rfl ?_
      repeat (first | refine SemW.run tblOk ?_ | refine IntG.nw (by omega) ?_ | refine IntG.nu8 (by omega) ?_ | refine IntG.nu32 (by omega) ?_ | refine IntG.nu64 (by omega) ?_ | refine IntG.wr' rfl ?_ | refine Chk.mk (by omega) ?_ | (refine BrG.id ?_; first | with_reducible refine BrG.t ?_ | with_reducible refine BrG.f ?_ | with_reducible refine BrG.notG ?_ | with_reducible refine BrG.nn ?_ | with_reducible refine BrG.ns ?_ | refine BrG.pos (by omega) ?_ | refine BrG.neg (by omega) ?_ | with_reducible refine BrG.pos rfl ?_ | refine BrG.pos (by assumption) ?_ | refine BrG.neg (by assumption) ?_ | refine BrG.pos (by decide) ?_ | refine BrG.neg (by decide) ?_) | refine Chk.mk (ptr_ok tblOk rfl rfl) ?_ | refine Chk.mk (by decide) ?_)
      have hS := hS.nil
      refine SemW.loop (fun x : Nat × Option Addr × Nat => [(5, .slice x.2.1 (4 * x.1) x.2.2), (40, .agg ⟨[u32V A, u32V Bv, u32V C, u32V D, u32V E, u32V F, u32V G, u32V Hh]⟩), (41, .int .i64 x.1)])
        (fun x w' => x.1 ≤ 8 ∧ ∃ L, Vec T_uint8 1 x.2.1 (4 * x.1) x.2.2 ((outB [A, Bv, C, D, E, F, G, Hh] x.1).map byteV) L ∧ St w T0 L w') (fun x => 8 - x.1) (0, none, 0)
        ⟨rfl, rfl, rfl, trivial⟩ ⟨Nat.zero_le _, [], Vec.nil, hS⟩ ?_
      rintro ⟨n, va, vc⟩ w7 ⟨hn, L8, hv8, hS⟩
      simp only at hn hv8 ⊢
      by_cases hnl : n < 8
      · have gv : ([u32V A, u32V Bv, u32V C, u32V D, u32V E, u32V F, u32V G, u32V Hh] : List Value)[n]? = some (u32V ([A, Bv, C, D, E, F, G, Hh].getD n 0)) := by
          match n, hnl with
          | 0, _ => rfl
          | 1, _ => rfl
          | 2, _ => rfl
          | 3, _ => rfl
          | 4, _ => rfl
          | 5, _ => rfl
          | 6, _ => rfl
          | 7, _ => rfl
        have hos := outB_succ [A, Bv, C, D, E, F, G, Hh] n (by simpa using hnl)
        generalize [A, Bv, C, D, E, F, G, Hh].getD n 0 = x at gv hos
        repeat (first | refine SemW.run tblOk ?_ | refine IntG.nw (by omega) ?_ | refine IntG.nu8 (by omega) ?_ | refine IntG.nu32 (by omega) ?_ | refine IntG.nu64 (by omega) ?_ | refine IntG.wr' rfl ?_ | refine Chk.mk (by omega) ?_ | (refine BrG.id ?_; first | with_reducible refine BrG.t ?_ | with_reducible refine BrG.f ?_ | with_reducible refine BrG.notG ?_ | with_reducible refine BrG.nn ?_ | with_reducible refine BrG.ns ?_ | refine BrG.pos (by omega) ?_ | refine BrG.neg (by omega) ?_ | with_reducible refine BrG.pos rfl ?_ | refine BrG.pos (by assumption) ?_ | refine BrG.neg (by assumption) ?_ | refine BrG.pos (by decide) ?_ | refine BrG.neg (by decide) ?_) | refine Chk.mk (ptr_ok tblOk rfl rfl) ?_ | refine Chk.mk (by decide) ?_)
        refine indexArr (n := 8) tblOk (t := T_tag_state) rfl rfl rfl rfl (by omega) gv ?_
        repeat (first | refine SemW.run tblOk ?_ | refine IntG.nw (by omega) ?_ | refine IntG.nu8 (by omega) ?_ | refine IntG.nu32 (by omega) ?_ | refine IntG.nu64 (by omega) ?_ | refine IntG.wr' rfl ?_ | refine Chk.mk (by omega) ?_ | (refine BrG.id ?_; first | with_reducible refine BrG.t ?_ | with_reducible refine BrG.f ?_ | with_reducible refine BrG.notG ?_ | with_reducible refine BrG.nn ?_ | with_reducible refine BrG.ns ?_ | refine BrG.pos (by omega) ?_ | refine BrG.neg (by omega) ?_ | with_reducible refine BrG.pos rfl ?_ | refine BrG.pos (by assumption) ?_ | refine BrG.neg (by assumption) ?_ | refine BrG.pos (by decide) ?_ | refine BrG.neg (by decide) ?_) | refine Chk.mk (ptr_ok tblOk rfl rfl) ?_ | refine Chk.mk (by decide) ?_)
        refine hS.al ?_
        intro r4 w8 _ hS
        repeat (first | refine SemW.run tblOk ?_ | refine IntG.nw (by omega) ?_ | refine IntG.nu8 (by omega) ?_ | refine IntG.nu32 (by omega) ?_ | refine IntG.nu64 (by omega) ?_ | refine IntG.wr' rfl ?_ | refine Chk.mk (by omega) ?_ | (refine BrG.id ?_; first | with_reducible refine BrG.t ?_ | with_reducible refine BrG.f ?_ | with_reducible refine BrG.notG ?_ | with_reducible refine BrG.nn ?_ | with_reducible refine BrG.ns ?_ | refine BrG.pos (by omega) ?_ | refine BrG.neg (by omega) ?_ | with_reducible refine BrG.pos rfl ?_ | refine BrG.pos (by assumption) ?_ | refine BrG.neg (by assumption) ?_ | refine BrG.pos (by decide) ?_ | refine BrG.neg (by decide) ?_) | refine Chk.mk (ptr_ok tblOk rfl rfl) ?_ | refine Chk.mk (by decide) ?_)
        have q : ∀ s, IntKind.u8.wrap ((x : Int).fdiv (2 ^ s)) = (((UInt8.ofNat (x / 2 ^ s)).toNat : Nat) : Int) := fun s => by rw [fdivP, u8wrap]
        refine St.app (sz := 1) (m := 4) tblOk rfl rfl rfl rfl hS hv8 (news := (be4w x).map byteV) rfl ?_ rfl (by show (_ + _) * 1 ≤ _; omega) (by omega) ?_
        · have := hS.arr (b := r4) (T' := []) (by simp)
          have e : ([.int .u8 (IntKind.u8.wrap ((x : Int).fdiv (2 ^ 24))), .int .u8 (IntKind.u8.wrap ((x : Int).fdiv (2 ^ 16))), .int .u8 (IntKind.u8.wrap ((x : Int).fdiv (2 ^ 8))), .int .u8 (IntKind.u8.wrap (x : Int))] : List Value) = (be4w x).map byteV := by
            rw [q, q, q, u8wrap]; rfl
          rw [← e]; exact this
        intro a' cap' L9 w9 hv9 hS
        rw [← List.map_append, ← hos] at hv9
        have hS := hS.sub (H' := L9) (List.sublist_cons_self _ _)
        repeat (first | refine SemW.run tblOk ?_ | refine IntG.nw (by omega) ?_ | refine IntG.nu8 (by omega) ?_ | refine IntG.nu32 (by omega) ?_ | refine IntG.nu64 (by omega) ?_ | refine IntG.wr' rfl ?_ | refine Chk.mk (by omega) ?_ | (refine BrG.id ?_; first | with_reducible refine BrG.t ?_ | with_reducible refine BrG.f ?_ | with_reducible refine BrG.notG ?_ | with_reducible refine BrG.nn ?_ | with_reducible refine BrG.ns ?_ | refine BrG.pos (by omega) ?_ | refine BrG.neg (by omega) ?_ | with_reducible refine BrG.pos rfl ?_ | refine BrG.pos (by assumption) ?_ | refine BrG.neg (by assumption) ?_ | refine BrG.pos (by decide) ?_ | refine BrG.neg (by decide) ?_) | refine Chk.mk (ptr_ok tblOk rfl rfl) ?_ | refine Chk.mk (by decide) ?_)
        exact ⟨(n + 1, a', cap'), ⟨rfl, rfl, rfl, trivial⟩, ⟨by simp only; omega, L9, hv9, hS⟩, by simp only; omega⟩
      · have hn8 : n = 8 := by omega
        subst hn8
        have hol := outB_len [A, Bv, C, D, E, F, G, Hh] 8 (by simp)
        repeat (first | refine SemW.run tblOk ?_ | refine IntG.nw (by omega) ?_ | refine IntG.nu8 (by omega) ?_ | refine IntG.nu32 (by omega) ?_ | refine IntG.nu64 (by omega) ?_ | refine IntG.wr' rfl ?_ | refine Chk.mk (by omega) ?_ | (refine BrG.id ?_; first | with_reducible refine BrG.t ?_ | with_reducible refine BrG.f ?_ | with_reducible refine BrG.notG ?_ | with_reducible refine BrG.nn ?_ | with_reducible refine BrG.ns ?_ | refine BrG.pos (by omega) ?_ | refine BrG.neg (by omega) ?_ | with_reducible refine BrG.pos rfl ?_ | refine BrG.pos (by assumption) ?_ | refine BrG.neg (by assumption) ?_ | refine BrG.pos (by decide) ?_ | refine BrG.neg (by decide) ?_) | refine Chk.mk (ptr_ok tblOk rfl rfl) ?_ | refine Chk.mk (by decide) ?_)
        refine toStr (T := []) tblOk rfl rfl rfl rfl rfl rfl (bs := outB [A, Bv, C, D, E, F, G, Hh] 8) hol (fun w' hw' => by subst hw'; exact hv8.arr hS (by simp)) ?_
        repeat (first | refine SemW.run tblOk ?_ | refine IntG.nw (by omega) ?_ | refine IntG.nu8 (by omega) ?_ | refine IntG.nu32 (by omega) ?_ | refine IntG.nu64 (by omega) ?_ | refine IntG.wr' rfl ?_ | refine Chk.mk (by omega) ?_ | (refine BrG.id ?_; first | with_reducible refine BrG.t ?_ | with_reducible refine BrG.f ?_ | with_reducible refine BrG.notG ?_ | with_reducible refine BrG.nn ?_ | with_reducible refine BrG.ns ?_ | refine BrG.pos (by omega) ?_ | refine BrG.neg (by omega) ?_ | with_reducible refine BrG.pos rfl ?_ | refine BrG.pos (by assumption) ?_ | refine BrG.neg (by assumption) ?_ | refine BrG.pos (by decide) ?_ | refine BrG.neg (by decide) ?_) | refine Chk.mk (ptr_ok tblOk rfl rfl) ?_ | refine Chk.mk (by decide) ?_)
        exact ⟨rfl, hS.nil⟩

set_option maxHeartbeats 1000000 in
theorem TSum_spec {w : World} {a : Option Addr} {cap : Nat} {ps : List Bytes} (ha : Arr w [] a (ps.map Str)) (hl : sumLen ps ≤ 70368744177664) (hl2 : ps.length ≤ 1099511627776) :
    Cl Tryd.prog f_tag_Sum [.slice a ps.length cap] w fun v w' => v = Str (shaB ps.flatten) ∧ St w [] [] w' := by
  have hS := St.start w
  refine en_tag_Sum rfl ?_
  repeat (first | refine SemW.run tblOk ?_ | refine IntG.nw (by omega) ?_ | refine IntG.nu8 (by omega) ?_ | refine IntG.nu32 (by omega) ?_ | refine IntG.nu64 (by omega) ?_ | refine IntG.wr' rfl ?_ | refine Chk.mk (by omega) ?_ | (refine BrG.id ?_; first | with_reducible refine BrG.t ?_ | with_reducible refine BrG.f ?_ | with_reducible refine BrG.notG ?_ | with_reducible refine BrG.nn ?_ | with_reducible refine BrG.ns ?_ | refine BrG.pos (by omega) ?_ | refine BrG.neg (by omega) ?_ | with_reducible refine BrG.pos rfl ?_ | refine BrG.pos (by assumption) ?_ | refine BrG.neg (by assumption) ?_ | refine BrG.pos (by decide) ?_ | refine BrG.neg (by decide) ?_) | refine Chk.mk (ptr_ok tblOk rfl rfl) ?_ | refine Chk.mk (by decide) ?_)
  refine newDigest_spec.mono ?_
  rintro _ w1 ⟨B, rfl, hS'⟩
  have hS := hS.callNew hS'
  rw [List.append_nil] at hS
  repeat (first | refine SemW.run tblOk ?_ | refine IntG.nw (by omega) ?_ | refine IntG.nu8 (by omega) ?_ | refine IntG.nu32 (by omega) ?_ | refine IntG.nu64 (by omega) ?_ | refine IntG.wr' rfl ?_ | refine Chk.mk (by omega) ?_ | (refine BrG.id ?_; first | with_reducible refine BrG.t ?_ | with_reducible refine BrG.f ?_ | with_reducible refine BrG.notG ?_ | with_reducible refine BrG.nn ?_ | with_reducible refine BrG.ns ?_ | refine BrG.pos (by omega) ?_ | refine BrG.neg (by omega) ?_ | with_reducible refine BrG.pos rfl ?_ | refine BrG.pos (by assumption) ?_ | refine BrG.neg (by assumption) ?_ | refine BrG.pos (by decide) ?_ | refine BrG.neg (by decide) ?_) | refine Chk.mk (ptr_ok tblOk rfl rfl) ?_ | refine Chk.mk (by decide) ?_)
  refine SemW.loop (fun k : Nat => [(3, ptr B), (7, .slice a ps.length cap), (8, .int .i64 ps.length), (9, .int .i64 k)])
    (fun k w' => k ≤ ps.length ∧ ∃ L, Dig B (ps.take k).flatten L ∧ St w [] L w') (fun k => ps.length - k) 0
    ⟨rfl, rfl, rfl, rfl, trivial⟩ ⟨Nat.zero_le _, _, Dig.new B, hS⟩ ?_
  rintro k w2 ⟨hk, L1, hD, hS⟩
  by_cases hkl : k < ps.length
  · obtain ⟨b', off', rfl, -, hck⟩ := ha.get (j := k) (by simp; omega)
    simp only [List.getElem_map] at hck
    have h1 := sumLen_take ps k hkl
    have h2 := sumLen_take_le ps (k + 1)
    have hfl : (ps.take k).flatten.length = sumLen (ps.take k) := by simp [sumLen, List.length_flatten]
    have hfs : (ps.take (k + 1)).flatten = (ps.take k).flatten ++ ps[k] := by
      rw [List.take_succ_eq_append_getElem hkl, List.flatten_append, List.flatten_cons, List.flatten_nil, List.append_nil]
    repeat (first | refine SemW.run tblOk ?_ | refine IntG.nw (by omega) ?_ | refine IntG.nu8 (by omega) ?_ | refine IntG.nu32 (by omega) ?_ | refine IntG.nu64 (by omega) ?_ | refine IntG.wr' rfl ?_ | refine Chk.mk (by omega) ?_ | (refine BrG.id ?_; first | with_reducible refine BrG.t ?_ | with_reducible refine BrG.f ?_ | with_reducible refine BrG.notG ?_ | with_reducible refine BrG.nn ?_ | with_reducible refine BrG.ns ?_ | refine BrG.pos (by omega) ?_ | refine BrG.neg (by omega) ?_ | with_reducible refine BrG.pos rfl ?_ | refine BrG.pos (by assumption) ?_ | refine BrG.neg (by assumption) ?_ | refine BrG.pos (by decide) ?_ | refine BrG.neg (by decide) ?_) | refine Chk.mk (ptr_ok tblOk rfl rfl) ?_ | refine Chk.mk (by decide) ?_)
    refine hS.ldOld (by simp) (by simpa using hck) ?_
    repeat (first | refine SemW.run tblOk ?_ | refine IntG.nw (by omega) ?_ | refine IntG.nu8 (by omega) ?_ | refine IntG.nu32 (by omega) ?_ | refine IntG.nu64 (by omega) ?_ | refine IntG.wr' rfl ?_ | refine Chk.mk (by omega) ?_ | (refine BrG.id ?_; first | with_reducible refine BrG.t ?_ | with_reducible refine BrG.f ?_ | with_reducible refine BrG.notG ?_ | with_reducible refine BrG.nn ?_ | with_reducible refine BrG.ns ?_ | refine BrG.pos (by omega) ?_ | refine BrG.neg (by omega) ?_ | with_reducible refine BrG.pos rfl ?_ | refine BrG.pos (by assumption) ?_ | refine BrG.neg (by assumption) ?_ | refine BrG.pos (by decide) ?_ | refine BrG.neg (by decide) ?_) | refine Chk.mk (ptr_ok tblOk rfl rfl) ?_ | refine Chk.mk (by decide) ?_)
    refine St.toBytes tblOk rfl rfl rfl rfl rfl rfl hS ?_
    intro r2 c2 z fz w5 hc hS
    repeat (first | refine SemW.run tblOk ?_ | refine IntG.nw (by omega) ?_ | refine IntG.nu8 (by omega) ?_ | refine IntG.nu32 (by omega) ?_ | refine IntG.nu64 (by omega) ?_ | refine IntG.wr' rfl ?_ | refine Chk.mk (by omega) ?_ | (refine BrG.id ?_; first | with_reducible refine BrG.t ?_ | with_reducible refine BrG.f ?_ | with_reducible refine BrG.notG ?_ | with_reducible refine BrG.nn ?_ | with_reducible refine BrG.ns ?_ | refine BrG.pos (by omega) ?_ | refine BrG.neg (by omega) ?_ | with_reducible refine BrG.pos rfl ?_ | refine BrG.pos (by assumption) ?_ | refine BrG.neg (by assumption) ?_ | refine BrG.pos (by decide) ?_ | refine BrG.neg (by decide) ?_) | refine Chk.mk (ptr_ok tblOk rfl rfl) ?_ | refine Chk.mk (by decide) ?_)
    refine Cl.mono (dadd_spec hD (hS.part (L := L1)) (xs := ps[k]) (Arr.take (hS.arr (b := r2) (nodup_new hS))) (by omega)) ?_
    rintro _ w6 ⟨L4, hD4, hS'⟩
    have hS := (hS.call (L := L1) hS').sub (List.sublist_cons_self _ _)
    rw [← hfs] at hD4
    repeat (first | refine SemW.run tblOk ?_ | refine IntG.nw (by omega) ?_ | refine IntG.nu8 (by omega) ?_ | refine IntG.nu32 (by omega) ?_ | refine IntG.nu64 (by omega) ?_ | refine IntG.wr' rfl ?_ | refine Chk.mk (by omega) ?_ | (refine BrG.id ?_; first | with_reducible refine BrG.t ?_ | with_reducible refine BrG.f ?_ | with_reducible refine BrG.notG ?_ | with_reducible refine BrG.nn ?_ | with_reducible refine BrG.ns ?_ | refine BrG.pos (by omega) ?_ | refine BrG.neg (by omega) ?_ | with_reducible refine BrG.pos rfl ?_ | refine BrG.pos (by assumption) ?_ | refine BrG.neg (by assumption) ?_ | refine BrG.pos (by decide) ?_ | refine BrG.neg (by decide) ?_) | refine Chk.mk (ptr_ok tblOk rfl rfl) ?_ | refine Chk.mk (by decide) ?_)
    exact ⟨k + 1, ⟨rfl, rfl, rfl, rfl, trivial⟩, ⟨by omega, L4, hD4, hS⟩, by omega⟩
  · have hke : k = ps.length := by omega
    subst hke
    rw [List.take_length] at hD
    have hfl : ps.flatten.length = sumLen ps := by simp [sumLen, List.length_flatten]
    repeat (first | refine SemW.run tblOk ?_ | refine IntG.nw (by omega) ?_ | refine IntG.nu8 (by omega) ?_ | refine IntG.nu32 (by omega) ?_ | refine IntG.nu64 (by omega) ?_ | refine IntG.wr' rfl ?_ | refine Chk.mk (by omega) ?_ | (refine BrG.id ?_; first | with_reducible refine BrG.t ?_ | with_reducible refine BrG.f ?_ | with_reducible refine BrG.notG ?_ | with_reducible refine BrG.nn ?_ | with_reducible refine BrG.ns ?_ | refine BrG.pos (by omega) ?_ | refine BrG.neg (by omega) ?_ | with_reducible refine BrG.pos rfl ?_ | refine BrG.pos (by assumption) ?_ | refine BrG.neg (by assumption) ?_ | refine BrG.pos (by decide) ?_ | refine BrG.neg (by decide) ?_) | refine Chk.mk (ptr_ok tblOk rfl rfl) ?_ | refine Chk.mk (by decide) ?_)
    refine Cl.mono (end_spec hD (hS.part (L := L1)) (by omega)) ?_
    rintro _ w6 ⟨rfl, hS'⟩
    have hS := hS.call (L := L1) hS'
    repeat (first | refine SemW.run tblOk ?_ | refine IntG.nw (by omega) ?_ | refine IntG.nu8 (by omega) ?_ | refine IntG.nu32 (by omega) ?_ | refine IntG.nu64 (by omega) ?_ | refine IntG.wr' rfl ?_ | refine Chk.mk (by omega) ?_ | (refine BrG.id ?_; first | with_reducible refine BrG.t ?_ | with_reducible refine BrG.f ?_ | with_reducible refine BrG.notG ?_ | with_reducible refine BrG.nn ?_ | with_reducible refine BrG.ns ?_ | refine BrG.pos (by omega) ?_ | refine BrG.neg (by omega) ?_ | with_reducible refine BrG.pos rfl ?_ | refine BrG.pos (by assumption) ?_ | refine BrG.neg (by assumption) ?_ | refine BrG.pos (by decide) ?_ | refine BrG.neg (by decide) ?_) | refine Chk.mk (ptr_ok tblOk rfl rfl) ?_ | refine Chk.mk (by decide) ?_)
    exact ⟨rfl, hS.nil⟩
end Go.Proofs.YtklppplnkpnbhaaDoor
