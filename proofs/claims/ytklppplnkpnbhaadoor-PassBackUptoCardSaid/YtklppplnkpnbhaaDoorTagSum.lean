/- Package tag: the digest as an object. -/
import Derived.Test.YtklppplnkpnbhaaDoorTag
import Derived.Test.YtklppplnkpnbhaaDoorVecO
namespace Go.Proofs.YtklppplnkpnbhaaDoor
open Go Go.Eng Go.Proofs

set_option maxHeartbeats 2000000 in
set_option maxRecDepth 10000 in
theorem rounds_spec {w : World} : Cl Tryd.prog f_tag_rounds [] w fun v w' => v = .agg ⟨kList.map u32V⟩ ∧ St w [] [] w' := by
  have hS := St.start w
  refine en_tag_rounds rfl ?_
  repeat (first | refine SemW.run tblOk ?_ | refine IntG.nw (by omega) ?_ | refine IntG.nu8 (by omega) ?_ | refine IntG.nu32 (by omega) ?_ | refine IntG.nu64 (by omega) ?_ | refine IntG.wr' rfl ?_ | refine Chk.mk (by omega) ?_ | (refine BrG.id ?_; first | with_reducible refine BrG.t ?_ | with_reducible refine BrG.f ?_ | with_reducible refine BrG.notG ?_ | with_reducible refine BrG.nn ?_ | with_reducible refine BrG.ns ?_ | refine BrG.pos (by omega) ?_ | refine BrG.neg (by omega) ?_ | with_reducible refine BrG.pos rfl ?_ | refine BrG.pos (by assumption) ?_ | refine BrG.neg (by assumption) ?_ | refine BrG.pos (by decide) ?_ | refine BrG.neg (by decide) ?_) | refine Chk.mk (ptr_ok tblOk rfl rfl) ?_ | refine Chk.mk (by decide) ?_)
  refine hS.al ?_
  intro b w1 _ hS
  repeat (first | refine SemW.run tblOk ?_ | refine IntG.nw (by omega) ?_ | refine IntG.nu8 (by omega) ?_ | refine IntG.nu32 (by omega) ?_ | refine IntG.nu64 (by omega) ?_ | refine IntG.wr' rfl ?_ | refine Chk.mk (by omega) ?_ | (refine BrG.id ?_; first | with_reducible refine BrG.t ?_ | with_reducible refine BrG.f ?_ | with_reducible refine BrG.notG ?_ | with_reducible refine BrG.nn ?_ | with_reducible refine BrG.ns ?_ | refine BrG.pos (by omega) ?_ | refine BrG.neg (by omega) ?_ | with_reducible refine BrG.pos rfl ?_ | refine BrG.pos (by assumption) ?_ | refine BrG.neg (by assumption) ?_ | refine BrG.pos (by decide) ?_ | refine BrG.neg (by decide) ?_) | refine Chk.mk (ptr_ok tblOk rfl rfl) ?_ | refine Chk.mk (by decide) ?_)
  refine hS.st rfl rfl ?_
  intro w2 hS
  repeat (first | refine SemW.run tblOk ?_ | refine IntG.nw (by omega) ?_ | refine IntG.nu8 (by omega) ?_ | refine IntG.nu32 (by omega) ?_ | refine IntG.nu64 (by omega) ?_ | refine IntG.wr' rfl ?_ | refine Chk.mk (by omega) ?_ | (refine BrG.id ?_; first | with_reducible refine BrG.t ?_ | with_reducible refine BrG.f ?_ | with_reducible refine BrG.notG ?_ | with_reducible refine BrG.nn ?_ | with_reducible refine BrG.ns ?_ | refine BrG.pos (by omega) ?_ | refine BrG.neg (by omega) ?_ | with_reducible refine BrG.pos rfl ?_ | refine BrG.pos (by assumption) ?_ | refine BrG.neg (by assumption) ?_ | refine BrG.pos (by decide) ?_ | refine BrG.neg (by decide) ?_) | refine Chk.mk (ptr_ok tblOk rfl rfl) ?_ | refine Chk.mk (by decide) ?_)
  refine hS.ldn rfl ?_
  repeat (first | refine SemW.run tblOk ?_ | refine IntG.nw (by omega) ?_ | refine IntG.nu8 (by omega) ?_ | refine IntG.nu32 (by omega) ?_ | refine IntG.nu64 (by omega) ?_ | refine IntG.wr' rfl ?_ | refine Chk.mk (by omega) ?_ | (refine BrG.id ?_; first | with_reducible refine BrG.t ?_ | with_reducible refine BrG.f ?_ | with_reducible refine BrG.notG ?_ | with_reducible refine BrG.nn ?_ | with_reducible refine BrG.ns ?_ | refine BrG.pos (by omega) ?_ | refine BrG.neg (by omega) ?_ | with_reducible refine BrG.pos rfl ?_ | refine BrG.pos (by assumption) ?_ | refine BrG.neg (by assumption) ?_ | refine BrG.pos (by decide) ?_ | refine BrG.neg (by decide) ?_) | refine Chk.mk (ptr_ok tblOk rfl rfl) ?_ | refine Chk.mk (by decide) ?_)
  exact ⟨rfl, hS.nil⟩
set_option maxHeartbeats 2000000 in
set_option maxRecDepth 10000 in
theorem newDigest_spec {w : World} : Cl Tryd.prog f_tag_newDigest [] w fun v w' => ∃ B, v = ptr B ∧ St w [] [(B, digC hList [.slice none 0 0, .int .u64 0])] w' := by
  have hS := St.start w
  refine en_tag_newDigest rfl ?_
  repeat (first | refine SemW.run tblOk ?_ | refine IntG.nw (by omega) ?_ | refine IntG.nu8 (by omega) ?_ | refine IntG.nu32 (by omega) ?_ | refine IntG.nu64 (by omega) ?_ | refine IntG.wr' rfl ?_ | refine Chk.mk (by omega) ?_ | (refine BrG.id ?_; first | with_reducible refine BrG.t ?_ | with_reducible refine BrG.f ?_ | with_reducible refine BrG.notG ?_ | with_reducible refine BrG.nn ?_ | with_reducible refine BrG.ns ?_ | refine BrG.pos (by omega) ?_ | refine BrG.neg (by omega) ?_ | with_reducible refine BrG.pos rfl ?_ | refine BrG.pos (by assumption) ?_ | refine BrG.neg (by assumption) ?_ | refine BrG.pos (by decide) ?_ | refine BrG.neg (by decide) ?_) | refine Chk.mk (ptr_ok tblOk rfl rfl) ?_ | refine Chk.mk (by decide) ?_)
  refine Cl.mono rounds_spec ?_
  rintro _ w1 ⟨rfl, hS'⟩
  have hS := hS.call0 hS'
  simp only [kList, List.map_cons, List.map_nil]
  unfold u32V
  repeat (first | refine SemW.run tblOk ?_ | refine IntG.nw (by omega) ?_ | refine IntG.nu8 (by omega) ?_ | refine IntG.nu32 (by omega) ?_ | refine IntG.nu64 (by omega) ?_ | refine IntG.wr' rfl ?_ | refine Chk.mk (by omega) ?_ | (refine BrG.id ?_; first | with_reducible refine BrG.t ?_ | with_reducible refine BrG.f ?_ | with_reducible refine BrG.notG ?_ | with_reducible refine BrG.nn ?_ | with_reducible refine BrG.ns ?_ | refine BrG.pos (by omega) ?_ | refine BrG.neg (by omega) ?_ | with_reducible refine BrG.pos rfl ?_ | refine BrG.pos (by assumption) ?_ | refine BrG.neg (by assumption) ?_ | refine BrG.pos (by decide) ?_ | refine BrG.neg (by decide) ?_) | refine Chk.mk (ptr_ok tblOk rfl rfl) ?_ | refine Chk.mk (by decide) ?_)
  refine hS.al ?_
  intro B w2 _ hS
  repeat (first | refine SemW.run tblOk ?_ | refine IntG.nw (by omega) ?_ | refine IntG.nu8 (by omega) ?_ | refine IntG.nu32 (by omega) ?_ | refine IntG.nu64 (by omega) ?_ | refine IntG.wr' rfl ?_ | refine Chk.mk (by omega) ?_ | (refine BrG.id ?_; first | with_reducible refine BrG.t ?_ | with_reducible refine BrG.f ?_ | with_reducible refine BrG.notG ?_ | with_reducible refine BrG.nn ?_ | with_reducible refine BrG.ns ?_ | refine BrG.pos (by omega) ?_ | refine BrG.neg (by omega) ?_ | with_reducible refine BrG.pos rfl ?_ | refine BrG.pos (by assumption) ?_ | refine BrG.neg (by assumption) ?_ | refine BrG.pos (by decide) ?_ | refine BrG.neg (by decide) ?_) | refine Chk.mk (ptr_ok tblOk rfl rfl) ?_ | refine Chk.mk (by decide) ?_)
  refine hS.st rfl rfl ?_
  intro w3 hS
  repeat (first | refine SemW.run tblOk ?_ | refine IntG.nw (by omega) ?_ | refine IntG.nu8 (by omega) ?_ | refine IntG.nu32 (by omega) ?_ | refine IntG.nu64 (by omega) ?_ | refine IntG.wr' rfl ?_ | refine Chk.mk (by omega) ?_ | (refine BrG.id ?_; first | with_reducible refine BrG.t ?_ | with_reducible refine BrG.f ?_ | with_reducible refine BrG.notG ?_ | with_reducible refine BrG.nn ?_ | with_reducible refine BrG.ns ?_ | refine BrG.pos (by omega) ?_ | refine BrG.neg (by omega) ?_ | with_reducible refine BrG.pos rfl ?_ | refine BrG.pos (by assumption) ?_ | refine BrG.neg (by assumption) ?_ | refine BrG.pos (by decide) ?_ | refine BrG.neg (by decide) ?_) | refine Chk.mk (ptr_ok tblOk rfl rfl) ?_ | refine Chk.mk (by decide) ?_)
  exact ⟨B, rfl, hS⟩

def restOf (t : Bytes) (q : Nat) : Bytes := t.drop (64 * q)
inductive Dig (B : Nat) (t : Bytes) : Heap → Prop where
  | mk (a : Option Addr) (cap n : Nat) (L : Heap) (hn : n = t.length - 64 * (t.length / 64)) (hv : VecO T_uint8 a n cap ((restOf t (t.length / 64)).map byteV) L) :
    Dig B t ((B, digC (hashN t (t.length / 64)) [.slice a n cap, .int .u64 t.length]) :: L)
theorem Dig.new (B : Nat) : Dig B [] [(B, digC hList [.slice none 0 0, .int .u64 0])] := Dig.mk none 0 0 [] rfl VecO.nil
theorem dig_rest (h : List Nat) (hl : h.length = 8) (r n : Value) : (h.map u32V ++ (kList.map u32V ++ [r, n]))[72]? = some r := by
  have hk : kList.length = 64 := by decide
  rw [List.getElem?_append_right (by simp; omega), List.length_map, hl, List.getElem?_append_right (by simp; omega), List.length_map, hk]; rfl
theorem dig_n (h : List Nat) (hl : h.length = 8) (r n : Value) : (h.map u32V ++ (kList.map u32V ++ [r, n]))[73]? = some n := by
  have hk : kList.length = 64 := by decide
  rw [List.getElem?_append_right (by simp; omega), List.length_map, hl, List.getElem?_append_right (by simp; omega), List.length_map, hk]; rfl
theorem dig_set_rest (h : List Nat) (hl : h.length = 8) (r n v : Value) : (h.map u32V ++ (kList.map u32V ++ [r, n])).set 72 v = h.map u32V ++ (kList.map u32V ++ [v, n]) := by
  have hk : kList.length = 64 := by decide
  rw [List.set_append_right _ _ (by simp; omega), List.length_map, hl, List.set_append_right _ _ (by simp; omega), List.length_map, hk]; rfl
theorem dig_set_n (h : List Nat) (hl : h.length = 8) (r n v : Value) : (h.map u32V ++ (kList.map u32V ++ [r, n])).set 73 v = h.map u32V ++ (kList.map u32V ++ [r, v]) := by
  have hk : kList.length = 64 := by decide
  rw [List.set_append_right _ _ (by simp; omega), List.length_map, hl, List.set_append_right _ _ (by simp; omega), List.length_map, hk]; rfl
theorem dig_len (h : List Nat) (hl : h.length = 8) (r n : Value) : (h.map u32V ++ (kList.map u32V ++ [r, n])).length = 74 := by
  have hk : kList.length = 64 := by decide
  simp; omega

set_option maxHeartbeats 4000000 in
set_option maxRecDepth 4000 in
theorem dadd_spec {w : World} {B : Nat} {t : Bytes} {L : Heap} (hD : Dig B t L) (hh : Holds L w) {a : Option Addr} {cap : Nat} {xs : Bytes} (ha : Arr w (keys L) a (xs.map byteV)) (hlen : t.length + xs.length ≤ 140737488355328) :
    Cl Tryd.prog f_tag_digest_add [ptr B, .slice a xs.length cap] w fun _ w' => ∃ L', Dig B (t ++ xs) L' ∧ St w (keys L) L' w' := by
  have hS := St.enter hh
  generalize hT : keys L = T0 at hS ha ⊢
  obtain ⟨a0, c0, n0, L0, hn0, hv⟩ := hD
  have hq0 : 64 * (t.length / 64) ≤ t.length := Nat.mul_div_le _ _
  have hH0 : hashN t (t.length / 64) = hashN (t ++ xs) (t.length / 64) := (hashN_app t xs _ hq0).symm
  have hR0 : restOf t (t.length / 64) ++ xs = restOf (t ++ xs) (t.length / 64) := by
    unfold restOf; rw [List.drop_append_of_le_length hq0]
  have hln : (t ++ xs).length = t.length + xs.length := List.length_append
  rw [hH0] at hS
  have hq1 : t.length / 64 ≤ (t ++ xs).length / 64 := Nat.div_le_div_right (by omega)
  generalize t.length / 64 = q0 at hS hv hn0 hq0 hR0 hq1
  have hhl := hashN_len (t ++ xs) q0
  refine en_tag_digest_add rfl ?_
  unfold digC at hS
  repeat (first | refine SemW.run tblOk ?_ | refine IntG.nw (by omega) ?_ | refine IntG.nu8 (by omega) ?_ | refine IntG.nu32 (by omega) ?_ | refine IntG.nu64 (by omega) ?_ | refine IntG.wr' rfl ?_ | refine Chk.mk (by omega) ?_ | (refine BrG.id ?_; first | with_reducible refine BrG.t ?_ | with_reducible refine BrG.f ?_ | with_reducible refine BrG.notG ?_ | with_reducible refine BrG.nn ?_ | with_reducible refine BrG.ns ?_ | refine BrG.pos (by omega) ?_ | refine BrG.neg (by omega) ?_ | with_reducible refine BrG.pos rfl ?_ | refine BrG.pos (by assumption) ?_ | refine BrG.neg (by assumption) ?_ | refine BrG.pos (by decide) ?_ | refine BrG.neg (by decide) ?_) | refine Chk.mk (ptr_ok tblOk rfl rfl) ?_ | refine Chk.mk (by decide) ?_)
  refine hS.ld (v := .slice a0 n0 c0) (dig_rest _ hhl _ _) ?_
  repeat (first | refine SemW.run tblOk ?_ | refine IntG.nw (by omega) ?_ | refine IntG.nu8 (by omega) ?_ | refine IntG.nu32 (by omega) ?_ | refine IntG.nu64 (by omega) ?_ | refine IntG.wr' rfl ?_ | refine Chk.mk (by omega) ?_ | (refine BrG.id ?_; first | with_reducible refine BrG.t ?_ | with_reducible refine BrG.f ?_ | with_reducible refine BrG.notG ?_ | with_reducible refine BrG.nn ?_ | with_reducible refine BrG.ns ?_ | refine BrG.pos (by omega) ?_ | refine BrG.neg (by omega) ?_ | with_reducible refine BrG.pos rfl ?_ | refine BrG.pos (by assumption) ?_ | refine BrG.neg (by assumption) ?_ | refine BrG.pos (by decide) ?_ | refine BrG.neg (by decide) ?_) | refine Chk.mk (ptr_ok tblOk rfl rfl) ?_ | refine Chk.mk (by decide) ?_)
  refine St.appO tblOk rfl rfl rfl rfl hS hv (news := xs.map byteV) (by simp) ((hS.arrOld ha).sub (by simp)) (by simp [byteV, Value.oneCell']) (by show (_ + _) * 1 ≤ _; omega) (by omega) ?_
  intro a1 c1 L1 w1 hv1 hS
  rw [← List.map_append, hR0] at hv1
  repeat (first | refine SemW.run tblOk ?_ | refine IntG.nw (by omega) ?_ | refine IntG.nu8 (by omega) ?_ | refine IntG.nu32 (by omega) ?_ | refine IntG.nu64 (by omega) ?_ | refine IntG.wr' rfl ?_ | refine Chk.mk (by omega) ?_ | (refine BrG.id ?_; first | with_reducible refine BrG.t ?_ | with_reducible refine BrG.f ?_ | with_reducible refine BrG.notG ?_ | with_reducible refine BrG.nn ?_ | with_reducible refine BrG.ns ?_ | refine BrG.pos (by omega) ?_ | refine BrG.neg (by omega) ?_ | with_reducible refine BrG.pos rfl ?_ | refine BrG.pos (by assumption) ?_ | refine BrG.neg (by assumption) ?_ | refine BrG.pos (by decide) ?_ | refine BrG.neg (by decide) ?_) | refine Chk.mk (ptr_ok tblOk rfl rfl) ?_ | refine Chk.mk (by decide) ?_)
  refine hS.stI rfl (by rw [dig_len _ hhl]; omega) ?_
  intro w2 hS
  have hS : St w T0 ((B, .cells ⟨(hashN (t ++ xs) q0).map u32V ++ (kList.map u32V ++ [.slice a1 (n0 + xs.length) c1, .int .u64 t.length])⟩ T_tag_digest (0, 0)) :: L1) w2 := by
    rw [← dig_set_rest _ hhl (.slice a0 n0 c0)]; exact hS
  repeat (first | refine SemW.run tblOk ?_ | refine IntG.nw (by omega) ?_ | refine IntG.nu8 (by omega) ?_ | refine IntG.nu32 (by omega) ?_ | refine IntG.nu64 (by omega) ?_ | refine IntG.wr' rfl ?_ | refine Chk.mk (by omega) ?_ | (refine BrG.id ?_; first | with_reducible refine BrG.t ?_ | with_reducible refine BrG.f ?_ | with_reducible refine BrG.notG ?_ | with_reducible refine BrG.nn ?_ | with_reducible refine BrG.ns ?_ | refine BrG.pos (by omega) ?_ | refine BrG.neg (by omega) ?_ | with_reducible refine BrG.pos rfl ?_ | refine BrG.pos (by assumption) ?_ | refine BrG.neg (by assumption) ?_ | refine BrG.pos (by decide) ?_ | refine BrG.neg (by decide) ?_) | refine Chk.mk (ptr_ok tblOk rfl rfl) ?_ | refine Chk.mk (by decide) ?_)
  refine hS.ld (v := .int .u64 t.length) (dig_n _ hhl _ _) ?_
  repeat (first | refine SemW.run tblOk ?_ | refine IntG.nw (by omega) ?_ | refine IntG.nu8 (by omega) ?_ | refine IntG.nu32 (by omega) ?_ | refine IntG.nu64 (by omega) ?_ | refine IntG.wr' rfl ?_ | refine Chk.mk (by omega) ?_ | (refine BrG.id ?_; first | with_reducible refine BrG.t ?_ | with_reducible refine BrG.f ?_ | with_reducible refine BrG.notG ?_ | with_reducible refine BrG.nn ?_ | with_reducible refine BrG.ns ?_ | refine BrG.pos (by omega) ?_ | refine BrG.neg (by omega) ?_ | with_reducible refine BrG.pos rfl ?_ | refine BrG.pos (by assumption) ?_ | refine BrG.neg (by assumption) ?_ | refine BrG.pos (by decide) ?_ | refine BrG.neg (by decide) ?_) | refine Chk.mk (ptr_ok tblOk rfl rfl) ?_ | refine Chk.mk (by decide) ?_)
  refine hS.stI rfl (by rw [dig_len _ hhl]; omega) ?_
  intro w3 hS
  have hS : St w T0 ((B, digC (hashN (t ++ xs) q0) [.slice a1 ((t ++ xs).length - 64 * q0) c1, .int .u64 (t ++ xs).length]) :: L1) w3 := by
    unfold digC
    rw [show (((t ++ xs).length : Nat) : Int) = (t.length : Int) + (xs.length : Int) by omega, show (t ++ xs).length - 64 * q0 = n0 + xs.length by omega, ← dig_set_n _ hhl _ (.int .u64 t.length)]
    exact hS
  rw [show n0 + xs.length = (t ++ xs).length - 64 * q0 by omega] at hv1
  generalize t ++ xs = u at hv1 hS hhl hln hq1 ⊢
  have hlu : u.length ≤ 140737488355328 := by omega
  repeat (first | refine SemW.run tblOk ?_ | refine IntG.nw (by omega) ?_ | refine IntG.nu8 (by omega) ?_ | refine IntG.nu32 (by omega) ?_ | refine IntG.nu64 (by omega) ?_ | refine IntG.wr' rfl ?_ | refine Chk.mk (by omega) ?_ | (refine BrG.id ?_; first | with_reducible refine BrG.t ?_ | with_reducible refine BrG.f ?_ | with_reducible refine BrG.notG ?_ | with_reducible refine BrG.nn ?_ | with_reducible refine BrG.ns ?_ | refine BrG.pos (by omega) ?_ | refine BrG.neg (by omega) ?_ | with_reducible refine BrG.pos rfl ?_ | refine BrG.pos (by assumption) ?_ | refine BrG.neg (by assumption) ?_ | refine BrG.pos (by decide) ?_ | refine BrG.neg (by decide) ?_) | refine Chk.mk (ptr_ok tblOk rfl rfl) ?_ | refine Chk.mk (by decide) ?_)
  refine SemW.loop (fun _ : Nat => [(0, ptr B)])
    (fun q w' => q ≤ u.length / 64 ∧ ∃ a c L, VecO T_uint8 a (u.length - 64 * q) c ((restOf u q).map byteV) L ∧ St w T0 ((B, digC (hashN u q) [.slice a (u.length - 64 * q) c, .int .u64 u.length]) :: L) w') (fun q => u.length / 64 - q) q0
    ⟨rfl, trivial⟩ ⟨hq1, a1, c1, L1, hv1, hS⟩ ?_
  rintro q w4 ⟨hq, a2, c2, L2, hv2, hS⟩
  have hhq := hashN_len u q
  have hlt := hashN_lt u q
  unfold digC at hS
  repeat (first | refine SemW.run tblOk ?_ | refine IntG.nw (by omega) ?_ | refine IntG.nu8 (by omega) ?_ | refine IntG.nu32 (by omega) ?_ | refine IntG.nu64 (by omega) ?_ | refine IntG.wr' rfl ?_ | refine Chk.mk (by omega) ?_ | (refine BrG.id ?_; first | with_reducible refine BrG.t ?_ | with_reducible refine BrG.f ?_ | with_reducible refine BrG.notG ?_ | with_reducible refine BrG.nn ?_ | with_reducible refine BrG.ns ?_ | refine BrG.pos (by omega) ?_ | refine BrG.neg (by omega) ?_ | with_reducible refine BrG.pos rfl ?_ | refine BrG.pos (by assumption) ?_ | refine BrG.neg (by assumption) ?_ | refine BrG.pos (by decide) ?_ | refine BrG.neg (by decide) ?_) | refine Chk.mk (ptr_ok tblOk rfl rfl) ?_ | refine Chk.mk (by decide) ?_)
  refine hS.ld (v := .slice a2 (u.length - 64 * q) c2) (dig_rest _ hhq _ _) ?_
  by_cases hqs : 64 ≤ u.length - 64 * q
  · obtain ⟨g, off, rfl⟩ := hv2.pos (by omega)
    have hcap := hv2.len.2
    have hblk : hashN u (q + 1) = stepM (hashN u q) ((restOf u q).take 64) := rfl
    have hrl : (restOf u q).length = u.length - 64 * q := by unfold restOf; simp
    have hrn : (restOf u q).drop 64 = restOf u (q + 1) := by unfold restOf; rw [List.drop_drop]; congr 1
    repeat (first | refine SemW.run tblOk ?_ | refine IntG.nw (by omega) ?_ | refine IntG.nu8 (by omega) ?_ | refine IntG.nu32 (by omega) ?_ | refine IntG.nu64 (by omega) ?_ | refine IntG.wr' rfl ?_ | refine Chk.mk (by omega) ?_ | (refine BrG.id ?_; first | with_reducible refine BrG.t ?_ | with_reducible refine BrG.f ?_ | with_reducible refine BrG.notG ?_ | with_reducible refine BrG.nn ?_ | with_reducible refine BrG.ns ?_ | refine BrG.pos (by omega) ?_ | refine BrG.neg (by omega) ?_ | with_reducible refine BrG.pos rfl ?_ | refine BrG.pos (by assumption) ?_ | refine BrG.neg (by assumption) ?_ | refine BrG.pos (by decide) ?_ | refine BrG.neg (by decide) ?_) | refine Chk.mk (ptr_ok tblOk rfl rfl) ?_ | refine Chk.mk (by decide) ?_)
    refine SemW.draw tblOk mixed (fun w'' => St w T0 ((B, .cells ⟨(hashN u q).map u32V ++ (kList.map u32V ++ [.slice (some ⟨g, off, none⟩) (u.length - 64 * q) c2, .int .u64 u.length])⟩ T_tag_digest (0, 0)) :: L2) w'') [11] [0, 1, 2, 3, 4, 5, 6, 7, 8, 9, 10, 11] (by kernel_rfl) hS.drew ?_
    have hS := hS.drew
    repeat (first | refine SemW.run tblOk ?_ | refine IntG.nw (by omega) ?_ | refine IntG.nu8 (by omega) ?_ | refine IntG.nu32 (by omega) ?_ | refine IntG.nu64 (by omega) ?_ | refine IntG.wr' rfl ?_ | refine Chk.mk (by omega) ?_ | (refine BrG.id ?_; first | with_reducible refine BrG.t ?_ | with_reducible refine BrG.f ?_ | with_reducible refine BrG.notG ?_ | with_reducible refine BrG.nn ?_ | with_reducible refine BrG.ns ?_ | refine BrG.pos (by omega) ?_ | refine BrG.neg (by omega) ?_ | with_reducible refine BrG.pos rfl ?_ | refine BrG.pos (by assumption) ?_ | refine BrG.neg (by assumption) ?_ | refine BrG.pos (by decide) ?_ | refine BrG.neg (by decide) ?_) | refine Chk.mk (ptr_ok tblOk rfl rfl) ?_ | refine Chk.mk (by decide) ?_ | refine hS.ldC rfl ?_ | refine hS.ldnC rfl ?_)
    refine hS.ldC (v := .slice (some ⟨g, off, none⟩) (u.length - 64 * q) c2) (dig_rest _ hhq _ _) ?_
    repeat (first | refine SemW.run tblOk ?_ | refine IntG.nw (by omega) ?_ | refine IntG.nu8 (by omega) ?_ | refine IntG.nu32 (by omega) ?_ | refine IntG.nu64 (by omega) ?_ | refine IntG.wr' rfl ?_ | refine Chk.mk (by omega) ?_ | (refine BrG.id ?_; first | with_reducible refine BrG.t ?_ | with_reducible refine BrG.f ?_ | with_reducible refine BrG.notG ?_ | with_reducible refine BrG.nn ?_ | with_reducible refine BrG.ns ?_ | refine BrG.pos (by omega) ?_ | refine BrG.neg (by omega) ?_ | with_reducible refine BrG.pos rfl ?_ | refine BrG.pos (by assumption) ?_ | refine BrG.neg (by assumption) ?_ | refine BrG.pos (by decide) ?_ | refine BrG.neg (by decide) ?_) | refine Chk.mk (ptr_ok tblOk rfl rfl) ?_ | refine Chk.mk (by decide) ?_ | refine hS.ldC rfl ?_ | refine hS.ldnC rfl ?_)
    have hS : St w T0 ([(B, digC (hashN u q) [.slice (some ⟨g, off, none⟩) (u.length - 64 * q) c2, .int .u64 u.length])] ++ L2) _ := hS
    have hBL : ∀ b ∈ keys L2, b ∉ [B] := by
      intro b hb hB
      have := hS.nd
      simp only [keys, List.cons_append, List.nil_append, List.map_cons, List.nodup_cons] at this
      simp only [List.mem_singleton] at hB
      subst hB
      exact this.1 hb
    refine Cl.mono (block_spec (b := (restOf u q).take 64) hhq hlt (hS.part (L := [(B, digC (hashN u q) [.slice (some ⟨g, off, none⟩) (u.length - 64 * q) c2, .int .u64 u.length])]))
      (Arr.take (ys := ((restOf u q).drop 64).map byteV) (by rw [← List.map_append, List.take_append_drop]; exact hv2.arr hS hBL)) (by rw [List.length_take]; omega)) ?_
    intro _ w5 hS'
    have hS := hS.call (L := [(B, digC (hashN u q) [.slice (some ⟨g, off, none⟩) (u.length - 64 * q) c2, .int .u64 u.length])]) hS'
    rw [← hblk] at hS
    have hhq1 := hashN_len u (q + 1)
    have hS : St w T0 ((B, .cells ⟨(hashN u (q + 1)).map u32V ++ (kList.map u32V ++ [.slice (some ⟨g, off, none⟩) (u.length - 64 * q) c2, .int .u64 u.length])⟩ T_tag_digest (0, 0)) :: L2) w5 := hS
    repeat (first | refine SemW.run tblOk ?_ | refine IntG.nw (by omega) ?_ | refine IntG.nu8 (by omega) ?_ | refine IntG.nu32 (by omega) ?_ | refine IntG.nu64 (by omega) ?_ | refine IntG.wr' rfl ?_ | refine Chk.mk (by omega) ?_ | (refine BrG.id ?_; first | with_reducible refine BrG.t ?_ | with_reducible refine BrG.f ?_ | with_reducible refine BrG.notG ?_ | with_reducible refine BrG.nn ?_ | with_reducible refine BrG.ns ?_ | refine BrG.pos (by omega) ?_ | refine BrG.neg (by omega) ?_ | with_reducible refine BrG.pos rfl ?_ | refine BrG.pos (by assumption) ?_ | refine BrG.neg (by assumption) ?_ | refine BrG.pos (by decide) ?_ | refine BrG.neg (by decide) ?_) | refine Chk.mk (ptr_ok tblOk rfl rfl) ?_ | refine Chk.mk (by decide) ?_ | refine hS.ldC rfl ?_ | refine hS.ldnC rfl ?_)
    refine hS.ld (v := .slice (some ⟨g, off, none⟩) (u.length - 64 * q) c2) (dig_rest _ hhq1 _ _) ?_
    repeat (first | refine SemW.run tblOk ?_ | refine IntG.nw (by omega) ?_ | refine IntG.nu8 (by omega) ?_ | refine IntG.nu32 (by omega) ?_ | refine IntG.nu64 (by omega) ?_ | refine IntG.wr' rfl ?_ | refine Chk.mk (by omega) ?_ | (refine BrG.id ?_; first | with_reducible refine BrG.t ?_ | with_reducible refine BrG.f ?_ | with_reducible refine BrG.notG ?_ | with_reducible refine BrG.nn ?_ | with_reducible refine BrG.ns ?_ | refine BrG.pos (by omega) ?_ | refine BrG.neg (by omega) ?_ | with_reducible refine BrG.pos rfl ?_ | refine BrG.pos (by assumption) ?_ | refine BrG.neg (by assumption) ?_ | refine BrG.pos (by decide) ?_ | refine BrG.neg (by decide) ?_) | refine Chk.mk (ptr_ok tblOk rfl rfl) ?_ | refine Chk.mk (by decide) ?_)
    refine hS.stI rfl (by rw [dig_len _ hhq1]; omega) ?_
    intro w6 hS
    have hv3 := hv2.drop (k := 64) (by omega)
    rw [← List.map_drop, hrn, show u.length - 64 * q - 64 = u.length - 64 * (q + 1) by omega] at hv3
    have hS : St w T0 ((B, digC (hashN u (q + 1)) [.slice (subA g off 64 c2 1) (u.length - 64 * (q + 1)) (c2 - 64), .int .u64 u.length]) :: L2) w6 := by
      unfold digC
      rw [← dig_set_rest _ hhq1 (.slice (some ⟨g, off, none⟩) (u.length - 64 * q) c2), show u.length - 64 * (q + 1) = u.length - 64 * q - 64 by omega]
      exact hS
    repeat (first | refine SemW.run tblOk ?_ | refine IntG.nw (by omega) ?_ | refine IntG.nu8 (by omega) ?_ | refine IntG.nu32 (by omega) ?_ | refine IntG.nu64 (by omega) ?_ | refine IntG.wr' rfl ?_ | refine Chk.mk (by omega) ?_ | (refine BrG.id ?_; first | with_reducible refine BrG.t ?_ | with_reducible refine BrG.f ?_ | with_reducible refine BrG.notG ?_ | with_reducible refine BrG.nn ?_ | with_reducible refine BrG.ns ?_ | refine BrG.pos (by omega) ?_ | refine BrG.neg (by omega) ?_ | with_reducible refine BrG.pos rfl ?_ | refine BrG.pos (by assumption) ?_ | refine BrG.neg (by assumption) ?_ | refine BrG.pos (by decide) ?_ | refine BrG.neg (by decide) ?_) | refine Chk.mk (ptr_ok tblOk rfl rfl) ?_ | refine Chk.mk (by decide) ?_)
    exact ⟨q + 1, ⟨rfl, trivial⟩, ⟨by omega, _, _, L2, hv3, hS⟩, by omega⟩
  · have hqe : q = u.length / 64 := by omega
    subst hqe
    repeat (first | refine SemW.run tblOk ?_ | refine IntG.nw (by omega) ?_ | refine IntG.nu8 (by omega) ?_ | refine IntG.nu32 (by omega) ?_ | refine IntG.nu64 (by omega) ?_ | refine IntG.wr' rfl ?_ | refine Chk.mk (by omega) ?_ | (refine BrG.id ?_; first | with_reducible refine BrG.t ?_ | with_reducible refine BrG.f ?_ | with_reducible refine BrG.notG ?_ | with_reducible refine BrG.nn ?_ | with_reducible refine BrG.ns ?_ | refine BrG.pos (by omega) ?_ | refine BrG.neg (by omega) ?_ | with_reducible refine BrG.pos rfl ?_ | refine BrG.pos (by assumption) ?_ | refine BrG.neg (by assumption) ?_ | refine BrG.pos (by decide) ?_ | refine BrG.neg (by decide) ?_) | refine Chk.mk (ptr_ok tblOk rfl rfl) ?_ | refine Chk.mk (by decide) ?_)
    exact ⟨_, Dig.mk a2 c2 _ L2 rfl hv2, hS⟩
end Go.Proofs.YtklppplnkpnbhaaDoor
