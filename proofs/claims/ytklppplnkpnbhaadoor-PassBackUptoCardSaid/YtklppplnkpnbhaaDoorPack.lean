/- Package pack: the writer's texts. -/
import Derived.Test.YtklppplnkpnbhaaDoorPackN
namespace Go.Proofs.YtklppplnkpnbhaaDoor
open Go Go.Eng Go.Proofs
def textsB (ss : List Bytes) : Bytes := (ss.map textB).flatten
theorem texts_succ (ss : List Bytes) (k : Nat) (hk : k < ss.length) : textsB (ss.take (k + 1)) = textsB (ss.take k) ++ textB ss[k] := by
  unfold textsB
  rw [List.take_succ_eq_append_getElem hk, List.map_append, List.flatten_append, List.map_cons, List.map_nil, List.flatten_cons, List.flatten_nil, List.append_nil]
theorem texts_len (ss : List Bytes) (h : sumLen ss ≤ 18446744073709551615) : (textsB ss).length ≤ 10 * ss.length + sumLen ss := by
  induction ss with
  | nil => simp [textsB]
  | cons z r ih =>
    have e : sumLen (z :: r) = z.length + sumLen r := by simp [sumLen]
    have h1 := numB_len10 z.length (by omega)
    have h2 := ih (by omega)
    rw [e]
    simp only [textsB, List.map_cons, List.flatten_cons, List.length_append, List.length_cons, textB] at h2 ⊢; omega
set_option maxHeartbeats 1000000 in
theorem Text_spec {w : World} {b : Nat} {bs : Bytes} {L : Heap} (hW : PackW b bs L) (hh : Holds L w) {a : Option Addr} {cap : Nat} {ss : List Bytes} (ha : Arr w (keys L) a (ss.map Str)) (hlen : bs.length + 10 * ss.length + sumLen ss ≤ 140737488355328) :
    Cl Tryd.prog f_pack_Writer_Text [ptr b, .slice a ss.length cap] w fun _ w' => ∃ L', PackW b (bs ++ textsB ss) L' ∧ St w (keys L) L' w' := by
  have hS := St.enter hh
  generalize hT : keys L = T0 at hS ha ⊢
  refine en_pack_Writer_Text rfl ?_
  repeat (first | refine SemW.run tblOk ?_ | refine IntG.nw (by omega) ?_ | refine IntG.nu8 (by omega) ?_ | refine IntG.nu32 (by omega) ?_ | refine IntG.nu64 (by omega) ?_ | refine IntG.wr' rfl ?_ | refine Chk.mk (by omega) ?_ | (refine BrG.id ?_; first | with_reducible refine BrG.t ?_ | with_reducible refine BrG.f ?_ | with_reducible refine BrG.notG ?_ | with_reducible refine BrG.nn ?_ | with_reducible refine BrG.ns ?_ | refine BrG.pos (by omega) ?_ | refine BrG.neg (by omega) ?_ | with_reducible refine BrG.pos rfl ?_ | refine BrG.pos (by assumption) ?_ | refine BrG.neg (by assumption) ?_ | refine BrG.pos (by decide) ?_ | refine BrG.neg (by decide) ?_) | refine Chk.mk (ptr_ok tblOk rfl rfl) ?_ | refine Chk.mk (by decide) ?_)
  refine SemW.loop (fun k : Nat => [(0, ptr b), (6, .slice a ss.length cap), (7, .int .i64 ss.length), (8, .int .i64 k)])
    (fun k w' => k ≤ ss.length ∧ ∃ L', PackW b (bs ++ textsB (ss.take k)) L' ∧ St w T0 L' w') (fun k => ss.length - k) 0
    ⟨rfl, rfl, rfl, rfl, trivial⟩ ⟨Nat.zero_le _, L, by simpa [textsB] using hW, hS⟩ ?_
  rintro k w1 ⟨hk, L1, hW1, hS⟩
  by_cases hkl : k < ss.length
  · obtain ⟨b', off', rfl, hbT, hck⟩ := ha.get (j := k) (by simp; omega)
    simp only [List.getElem_map] at hck
    have hs := texts_succ ss k hkl
    have h1 := sumLen_take ss k hkl
    have h2 := sumLen_take_le ss (k + 1)
    have hln := texts_len (ss.take k) (by omega)
    have hlt : (ss.take k).length = k := by simp; omega
    have h10 := numB_len10 ss[k].length (by omega)
    repeat (first | refine SemW.run tblOk ?_ | refine IntG.nw (by omega) ?_ | refine IntG.nu8 (by omega) ?_ | refine IntG.nu32 (by omega) ?_ | refine IntG.nu64 (by omega) ?_ | refine IntG.wr' rfl ?_ | refine Chk.mk (by omega) ?_ | (refine BrG.id ?_; first | with_reducible refine BrG.t ?_ | with_reducible refine BrG.f ?_ | with_reducible refine BrG.notG ?_ | with_reducible refine BrG.nn ?_ | with_reducible refine BrG.ns ?_ | refine BrG.pos (by omega) ?_ | refine BrG.neg (by omega) ?_ | with_reducible refine BrG.pos rfl ?_ | refine BrG.pos (by assumption) ?_ | refine BrG.neg (by assumption) ?_ | refine BrG.pos (by decide) ?_ | refine BrG.neg (by decide) ?_) | refine Chk.mk (ptr_ok tblOk rfl rfl) ?_ | refine Chk.mk (by decide) ?_)
    refine hS.ldOld hbT (by simpa using hck) ?_
    repeat (first | refine SemW.run tblOk ?_ | refine IntG.nw (by omega) ?_ | refine IntG.nu8 (by omega) ?_ | refine IntG.nu32 (by omega) ?_ | refine IntG.nu64 (by omega) ?_ | refine IntG.wr' rfl ?_ | refine Chk.mk (by omega) ?_ | (refine BrG.id ?_; first | with_reducible refine BrG.t ?_ | with_reducible refine BrG.f ?_ | with_reducible refine BrG.notG ?_ | with_reducible refine BrG.nn ?_ | with_reducible refine BrG.ns ?_ | refine BrG.pos (by omega) ?_ | refine BrG.neg (by omega) ?_ | with_reducible refine BrG.pos rfl ?_ | refine BrG.pos (by assumption) ?_ | refine BrG.neg (by assumption) ?_ | refine BrG.pos (by decide) ?_ | refine BrG.neg (by decide) ?_) | refine Chk.mk (ptr_ok tblOk rfl rfl) ?_ | refine Chk.mk (by decide) ?_)
    refine hS.al ?_
    intro r w3 _ hS
    repeat (first | refine SemW.run tblOk ?_ | refine IntG.nw (by omega) ?_ | refine IntG.nu8 (by omega) ?_ | refine IntG.nu32 (by omega) ?_ | refine IntG.nu64 (by omega) ?_ | refine IntG.wr' rfl ?_ | refine Chk.mk (by omega) ?_ | (refine BrG.id ?_; first | with_reducible refine BrG.t ?_ | with_reducible refine BrG.f ?_ | with_reducible refine BrG.notG ?_ | with_reducible refine BrG.nn ?_ | with_reducible refine BrG.ns ?_ | refine BrG.pos (by omega) ?_ | refine BrG.neg (by omega) ?_ | with_reducible refine BrG.pos rfl ?_ | refine BrG.pos (by assumption) ?_ | refine BrG.neg (by assumption) ?_ | refine BrG.pos (by decide) ?_ | refine BrG.neg (by decide) ?_) | refine Chk.mk (ptr_ok tblOk rfl rfl) ?_ | refine Chk.mk (by decide) ?_)
    refine Cl.mono (Num_spec hW1 (hS.part (L := L1)) (ns := [ss[k].length]) (hS.arr (b := r) (nodup_new hS)) (by simp; omega) (by simp) (by rw [List.length_append, List.length_singleton]; omega)) ?_
    rintro _ w4 ⟨L3, hW3, hS'⟩
    have hS := (hS.call (L := L1) hS').sub (List.sublist_cons_self _ _)
    have hW3 : PackW b (bs ++ textsB (ss.take k) ++ numB ss[k].length) L3 := by simpa using hW3
    repeat (first | refine SemW.run tblOk ?_ | refine IntG.nw (by omega) ?_ | refine IntG.nu8 (by omega) ?_ | refine IntG.nu32 (by omega) ?_ | refine IntG.nu64 (by omega) ?_ | refine IntG.wr' rfl ?_ | refine Chk.mk (by omega) ?_ | (refine BrG.id ?_; first | with_reducible refine BrG.t ?_ | with_reducible refine BrG.f ?_ | with_reducible refine BrG.notG ?_ | with_reducible refine BrG.nn ?_ | with_reducible refine BrG.ns ?_ | refine BrG.pos (by omega) ?_ | refine BrG.neg (by omega) ?_ | with_reducible refine BrG.pos rfl ?_ | refine BrG.pos (by assumption) ?_ | refine BrG.neg (by assumption) ?_ | refine BrG.pos (by decide) ?_ | refine BrG.neg (by decide) ?_) | refine Chk.mk (ptr_ok tblOk rfl rfl) ?_ | refine Chk.mk (by decide) ?_)
    refine St.toBytes tblOk rfl rfl rfl rfl rfl rfl hS ?_
    intro r2 c2 z fz w5 hc hS
    repeat (first | refine SemW.run tblOk ?_ | refine IntG.nw (by omega) ?_ | refine IntG.nu8 (by omega) ?_ | refine IntG.nu32 (by omega) ?_ | refine IntG.nu64 (by omega) ?_ | refine IntG.wr' rfl ?_ | refine Chk.mk (by omega) ?_ | (refine BrG.id ?_; first | with_reducible refine BrG.t ?_ | with_reducible refine BrG.f ?_ | with_reducible refine BrG.notG ?_ | with_reducible refine BrG.nn ?_ | with_reducible refine BrG.ns ?_ | refine BrG.pos (by omega) ?_ | refine BrG.neg (by omega) ?_ | with_reducible refine BrG.pos rfl ?_ | refine BrG.pos (by assumption) ?_ | refine BrG.neg (by assumption) ?_ | refine BrG.pos (by decide) ?_ | refine BrG.neg (by decide) ?_) | refine Chk.mk (ptr_ok tblOk rfl rfl) ?_ | refine Chk.mk (by decide) ?_)
    refine Cl.mono (add_spec hW3 (hS.part (L := L3)) (xs := ss[k]) (Arr.take (hS.arr (b := r2) (nodup_new hS))) (by rw [List.length_append, List.length_append]; omega)) ?_
    rintro _ w6 ⟨L4, hW4, hS'⟩
    have hS := (hS.call (L := L3) hS').sub (List.sublist_cons_self _ _)
    repeat (first | refine SemW.run tblOk ?_ | refine IntG.nw (by omega) ?_ | refine IntG.nu8 (by omega) ?_ | refine IntG.nu32 (by omega) ?_ | refine IntG.nu64 (by omega) ?_ | refine IntG.wr' rfl ?_ | refine Chk.mk (by omega) ?_ | (refine BrG.id ?_; first | with_reducible refine BrG.t ?_ | with_reducible refine BrG.f ?_ | with_reducible refine BrG.notG ?_ | with_reducible refine BrG.nn ?_ | with_reducible refine BrG.ns ?_ | refine BrG.pos (by omega) ?_ | refine BrG.neg (by omega) ?_ | with_reducible refine BrG.pos rfl ?_ | refine BrG.pos (by assumption) ?_ | refine BrG.neg (by assumption) ?_ | refine BrG.pos (by decide) ?_ | refine BrG.neg (by decide) ?_) | refine Chk.mk (ptr_ok tblOk rfl rfl) ?_ | refine Chk.mk (by decide) ?_)
    refine ⟨k + 1, ⟨rfl, rfl, rfl, rfl, trivial⟩, ⟨by omega, L4, ?_, hS⟩, by omega⟩
    rw [hs, textB]
    simpa using hW4
  · have hke : k = ss.length := by omega
    subst hke
    rw [List.take_length] at hW1
    repeat (first | refine SemW.run tblOk ?_ | refine IntG.nw (by omega) ?_ | refine IntG.nu8 (by omega) ?_ | refine IntG.nu32 (by omega) ?_ | refine IntG.nu64 (by omega) ?_ | refine IntG.wr' rfl ?_ | refine Chk.mk (by omega) ?_ | (refine BrG.id ?_; first | with_reducible refine BrG.t ?_ | with_reducible refine BrG.f ?_ | with_reducible refine BrG.notG ?_ | with_reducible refine BrG.nn ?_ | with_reducible refine BrG.ns ?_ | refine BrG.pos (by omega) ?_ | refine BrG.neg (by omega) ?_ | with_reducible refine BrG.pos rfl ?_ | refine BrG.pos (by assumption) ?_ | refine BrG.neg (by assumption) ?_ | refine BrG.pos (by decide) ?_ | refine BrG.neg (by decide) ?_) | refine Chk.mk (ptr_ok tblOk rfl rfl) ?_ | refine Chk.mk (by decide) ?_)
    exact ⟨L1, hW1, hS⟩
end Go.Proofs.YtklppplnkpnbhaaDoor
