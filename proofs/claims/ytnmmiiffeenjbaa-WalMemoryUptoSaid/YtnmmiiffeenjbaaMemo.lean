/- tarmaclaw05.WalMemory. -/
import Derived.Test.YtnmmiiffeenjbaaDel
namespace Go.Proofs.Ytnmmiiffeenjbaa
open Go Go.Eng Go.Proofs

theorem Arr.take {w : World} {T : List Nat} {a : Option Addr} {xs ys : List Value} (h : Arr w T a (xs ++ ys)) : Arr w T a xs := fun j x hx => h j x (by
  rw [List.getElem?_append_left ((List.getElem?_eq_some_iff.1 hx).1)]; exact hx)
abbrev spareB : Bytes := [115, 112, 97, 114, 101]

set_option maxHeartbeats 2000000 in
set_option maxRecDepth 4000 in
theorem WalMemory_spec {w : World} {a : Option Addr} {cap : Nat} {ps : List Bytes} (ha : Arr w [] a (ps.map Str)) (hc : ps.length ≤ cap) (hb : sumLen ps + cap + 1 ≤ 1048576) :
    Cl Try.prog f_tarmaclaw05_WalMemory [.slice a ps.length cap] w fun v w' => v = .bool true ∧ St w [] [] w' := by
  have hS := St.start w
  refine en_tarmaclaw05_WalMemory rfl ?_
  repeat (first | refine SemW.run tblOk ?_ | refine IntG.nw (by omega) ?_ | refine IntG.nu8 (by omega) ?_ | refine IntG.nu32 (by omega) ?_ | refine IntG.nu64 (by omega) ?_ | refine IntG.wr' rfl ?_ | refine Chk.mk (by omega) ?_ | (refine BrG.id ?_; first | with_reducible refine BrG.t ?_ | with_reducible refine BrG.f ?_ | with_reducible refine BrG.notG ?_ | with_reducible refine BrG.nn ?_ | with_reducible refine BrG.ns ?_ | refine BrG.pos (by omega) ?_ | refine BrG.neg (by omega) ?_) | refine Chk.mk (ptr_ok tblOk rfl rfl) ?_)
  refine lives5_spec.mono ?_
  rintro _ w1 ⟨rfl, hS'⟩
  have hS := hS.call0 hS'
  repeat (first | refine SemW.run tblOk ?_ | refine IntG.nw (by omega) ?_ | refine IntG.nu8 (by omega) ?_ | refine IntG.nu32 (by omega) ?_ | refine IntG.nu64 (by omega) ?_ | refine IntG.wr' rfl ?_ | refine Chk.mk (by omega) ?_ | (refine BrG.id ?_; first | with_reducible refine BrG.t ?_ | with_reducible refine BrG.f ?_ | with_reducible refine BrG.notG ?_ | with_reducible refine BrG.nn ?_ | with_reducible refine BrG.ns ?_ | refine BrG.pos (by omega) ?_ | refine BrG.neg (by omega) ?_) | refine Chk.mk (ptr_ok tblOk rfl rfl) ?_)
  refine New_spec.mono ?_
  rintro _ w2 ⟨f, L, rfl, hf, hF, hS'⟩
  have hS := hS.callNew hS'
  rw [List.append_nil] at hS
  have hF : FSo f (fsmT none 0) L := hF
  repeat (first | refine SemW.run tblOk ?_ | refine IntG.nw (by omega) ?_ | refine IntG.nu8 (by omega) ?_ | refine IntG.nu32 (by omega) ?_ | refine IntG.nu64 (by omega) ?_ | refine IntG.wr' rfl ?_ | refine Chk.mk (by omega) ?_ | (refine BrG.id ?_; first | with_reducible refine BrG.t ?_ | with_reducible refine BrG.f ?_ | with_reducible refine BrG.notG ?_ | with_reducible refine BrG.nn ?_ | with_reducible refine BrG.ns ?_ | refine BrG.pos (by omega) ?_ | refine BrG.neg (by omega) ?_) | refine Chk.mk (ptr_ok tblOk rfl rfl) ?_)
  refine hS.al ?_
  intro g0 w3 _ hS
  repeat (first | refine SemW.run tblOk ?_ | refine IntG.nw (by omega) ?_ | refine IntG.nu8 (by omega) ?_ | refine IntG.nu32 (by omega) ?_ | refine IntG.nu64 (by omega) ?_ | refine IntG.wr' rfl ?_ | refine Chk.mk (by omega) ?_ | (refine BrG.id ?_; first | with_reducible refine BrG.t ?_ | with_reducible refine BrG.f ?_ | with_reducible refine BrG.notG ?_ | with_reducible refine BrG.nn ?_ | with_reducible refine BrG.ns ?_ | refine BrG.pos (by omega) ?_ | refine BrG.neg (by omega) ?_) | refine Chk.mk (ptr_ok tblOk rfl rfl) ?_)
  have hS : St w [] ([(g0, .cells ⟨[]⟩ T_string (0, 0))] ++ L) w3 := hS
  have hv0 : Vec T_string 1 (some ⟨g0, 0, none⟩) 0 0 [] [(g0, .cells ⟨[]⟩ T_string (0, 0))] := Vec.made T_string g0 []
  refine St.app (sz := 1) (n := 0) (m := ps.length) tblOk rfl rfl rfl rfl hS hv0 (news := ps.map Str) (by simp) (hS.arrOld ha) (by simp [Value.oneCell']) (by show (_ + _) * 16 ≤ _; omega) (by omega) ?_
  intro a1 cap1 Lv1 w4 hv1 hS
  rw [List.nil_append, Nat.zero_add] at hv1
  rw [Nat.zero_add]
  repeat (first | refine SemW.run tblOk ?_ | refine IntG.nw (by omega) ?_ | refine IntG.nu8 (by omega) ?_ | refine IntG.nu32 (by omega) ?_ | refine IntG.nu64 (by omega) ?_ | refine IntG.wr' rfl ?_ | refine Chk.mk (by omega) ?_ | (refine BrG.id ?_; first | with_reducible refine BrG.t ?_ | with_reducible refine BrG.f ?_ | with_reducible refine BrG.notG ?_ | with_reducible refine BrG.nn ?_ | with_reducible refine BrG.ns ?_ | refine BrG.pos (by omega) ?_ | refine BrG.neg (by omega) ?_) | refine Chk.mk (ptr_ok tblOk rfl rfl) ?_)
  refine hS.al ?_
  intro g1 w5 _ hS
  repeat (first | refine SemW.run tblOk ?_ | refine IntG.nw (by omega) ?_ | refine IntG.nu8 (by omega) ?_ | refine IntG.nu32 (by omega) ?_ | refine IntG.nu64 (by omega) ?_ | refine IntG.wr' rfl ?_ | refine Chk.mk (by omega) ?_ | (refine BrG.id ?_; first | with_reducible refine BrG.t ?_ | with_reducible refine BrG.f ?_ | with_reducible refine BrG.notG ?_ | with_reducible refine BrG.nn ?_ | with_reducible refine BrG.ns ?_ | refine BrG.pos (by omega) ?_ | refine BrG.neg (by omega) ?_) | refine Chk.mk (ptr_ok tblOk rfl rfl) ?_)
  refine St.app (sz := 1) (m := 1) tblOk rfl rfl rfl rfl hS hv1 (news := [Str spareB]) rfl (hS.arr (b := g1) (by simp)) rfl (by show (_ + _) * 16 ≤ _; omega) (by omega) ?_
  intro a2 cap2 Lv2 w6 hv2 hS
  have hS := hS.sub (List.sublist_cons_self _ _)
  have hc2 : ps.length + 1 ≤ cap2 := by
    rcases hv2.inv with ⟨_, h, _⟩ | ⟨_, _, _, _, _, h, _⟩ <;> omega
  obtain ⟨g2, l2, rfl, hx2, hl2, hn2, rfl⟩ : ∃ g l, a2 = some ⟨g, 0, none⟩ ∧ (ps.map Str ++ [Str spareB]).length = (ps.length + 1) * 1 ∧ (ps.map Str ++ [Str spareB]).length + l.length = cap2 * 1 ∧ ps.length + 1 ≤ cap2 ∧ Lv2 = [(g, .cells ⟨ps.map Str ++ [Str spareB] ++ l⟩ T_string (0, 0))] := by
    rcases hv2.inv with ⟨_, h, _⟩ | h
    · omega
    · exact h
  repeat (first | refine SemW.run tblOk ?_ | refine IntG.nw (by omega) ?_ | refine IntG.nu8 (by omega) ?_ | refine IntG.nu32 (by omega) ?_ | refine IntG.nu64 (by omega) ?_ | refine IntG.wr' rfl ?_ | refine Chk.mk (by omega) ?_ | (refine BrG.id ?_; first | with_reducible refine BrG.t ?_ | with_reducible refine BrG.f ?_ | with_reducible refine BrG.notG ?_ | with_reducible refine BrG.nn ?_ | with_reducible refine BrG.ns ?_ | refine BrG.pos (by omega) ?_ | refine BrG.neg (by omega) ?_) | refine Chk.mk (ptr_ok tblOk rfl rfl) ?_)
  have hS : St w [] ((g2, .cells ⟨ps.map Str ++ [Str spareB] ++ l2⟩ T_string (0, 0)) :: L) w6 := hS
  refine (Rewrite_calm hF (hS.part (L := L)) (ps := ps) (Arr.take (Arr.take (hS.arr (b := g2) (nodup_new hS)))) (by omega) (by simp)).mono ?_
  rintro _ w7 ⟨rfl, L', hF', hS'⟩
  have hS := hS.call (L := L) hS'
  repeat (first | refine SemW.run tblOk ?_ | refine IntG.nw (by omega) ?_ | refine IntG.nu8 (by omega) ?_ | refine IntG.nu32 (by omega) ?_ | refine IntG.nu64 (by omega) ?_ | refine IntG.wr' rfl ?_ | refine Chk.mk (by omega) ?_ | (refine BrG.id ?_; first | with_reducible refine BrG.t ?_ | with_reducible refine BrG.f ?_ | with_reducible refine BrG.notG ?_ | with_reducible refine BrG.nn ?_ | with_reducible refine BrG.ns ?_ | refine BrG.pos (by omega) ?_ | refine BrG.neg (by omega) ?_) | refine Chk.mk (ptr_ok tblOk rfl rfl) ?_)
  refine (Same_spec (ps := ps) (qs := ps) (Arr.take (Arr.take (hS.arr (b := g2) (by simp)))) (hS.arrOld ha) (by omega)).mono ?_
  rintro _ w8 ⟨rfl, hS'⟩
  have hS := hS.call0 hS'
  rw [decide_eq_true (rfl : ps = ps)]
  repeat (first | refine SemW.run tblOk ?_ | refine IntG.nw (by omega) ?_ | refine IntG.nu8 (by omega) ?_ | refine IntG.nu32 (by omega) ?_ | refine IntG.nu64 (by omega) ?_ | refine IntG.wr' rfl ?_ | refine Chk.mk (by omega) ?_ | (refine BrG.id ?_; first | with_reducible refine BrG.t ?_ | with_reducible refine BrG.f ?_ | with_reducible refine BrG.notG ?_ | with_reducible refine BrG.nn ?_ | with_reducible refine BrG.ns ?_ | refine BrG.pos (by omega) ?_ | refine BrG.neg (by omega) ?_) | refine Chk.mk (ptr_ok tblOk rfl rfl) ?_)
  refine hS.ld (v := Str spareB) (by simp) ?_
  repeat (first | refine SemW.run tblOk ?_ | refine IntG.nw (by omega) ?_ | refine IntG.nu8 (by omega) ?_ | refine IntG.nu32 (by omega) ?_ | refine IntG.nu64 (by omega) ?_ | refine IntG.wr' rfl ?_ | refine Chk.mk (by omega) ?_ | (refine BrG.id ?_; first | with_reducible refine BrG.t ?_ | with_reducible refine BrG.f ?_ | with_reducible refine BrG.notG ?_ | with_reducible refine BrG.nn ?_ | with_reducible refine BrG.ns ?_ | refine BrG.pos (by omega) ?_ | refine BrG.neg (by omega) ?_) | refine Chk.mk (ptr_ok tblOk rfl rfl) ?_)
  refine BrG.pos rfl ?_
  by_cases hok : okLens ps = false
  · rw [hok, if_neg Bool.false_ne_true]
    rw [hok] at hF'
    have hF' : FSo f (fsmT none 0) L' := hF'
    repeat (first | refine SemW.run tblOk ?_ | refine IntG.nw (by omega) ?_ | refine IntG.nu8 (by omega) ?_ | refine IntG.nu32 (by omega) ?_ | refine IntG.nu64 (by omega) ?_ | refine IntG.wr' rfl ?_ | refine Chk.mk (by omega) ?_ | (refine BrG.id ?_; first | with_reducible refine BrG.t ?_ | with_reducible refine BrG.f ?_ | with_reducible refine BrG.notG ?_ | with_reducible refine BrG.nn ?_ | with_reducible refine BrG.ns ?_ | refine BrG.pos (by omega) ?_ | refine BrG.neg (by omega) ?_) | refine Chk.mk (ptr_ok tblOk rfl rfl) ?_)
    refine (Acts_calm hF' (hS.part (L := L'))).mono ?_
    rintro _ w9 ⟨rfl, hS'⟩
    have hS := hS.call (L := L') hS'
    repeat (first | refine SemW.run tblOk ?_ | refine IntG.nw (by omega) ?_ | refine IntG.nu8 (by omega) ?_ | refine IntG.nu32 (by omega) ?_ | refine IntG.nu64 (by omega) ?_ | refine IntG.wr' rfl ?_ | refine Chk.mk (by omega) ?_ | (refine BrG.id ?_; first | with_reducible refine BrG.t ?_ | with_reducible refine BrG.f ?_ | with_reducible refine BrG.notG ?_ | with_reducible refine BrG.nn ?_ | with_reducible refine BrG.ns ?_ | refine BrG.pos (by omega) ?_ | refine BrG.neg (by omega) ?_) | refine Chk.mk (ptr_ok tblOk rfl rfl) ?_)
    exact ⟨rfl, hS.nil⟩
  · have hok' : okLens ps = true := by simpa using hok
    rw [hok', if_pos rfl]
    rw [hok'] at hF'
    have hF' : FSo f (fsmT (some (sealB ps)) 2) L' := hF'
    have hsl := sealB_len ps
    repeat (first | refine SemW.run tblOk ?_ | refine IntG.nw (by omega) ?_ | refine IntG.nu8 (by omega) ?_ | refine IntG.nu32 (by omega) ?_ | refine IntG.nu64 (by omega) ?_ | refine IntG.wr' rfl ?_ | refine Chk.mk (by omega) ?_ | (refine BrG.id ?_; first | with_reducible refine BrG.t ?_ | with_reducible refine BrG.f ?_ | with_reducible refine BrG.notG ?_ | with_reducible refine BrG.nn ?_ | with_reducible refine BrG.ns ?_ | refine BrG.pos (by omega) ?_ | refine BrG.neg (by omega) ?_) | refine Chk.mk (ptr_ok tblOk rfl rfl) ?_)
    refine (Open_calm hF' (hS.part (L := L')) ps rfl hok' (by omega) _ rfl).mono ?_
    rintro _ w9 ⟨bl1, a3, cap3, Lv3, hbl1, rfl, hv3, hS'⟩
    have hS := hS.call (L := L') hS'
    repeat (first | refine SemW.run tblOk ?_ | refine IntG.nw (by omega) ?_ | refine IntG.nu8 (by omega) ?_ | refine IntG.nu32 (by omega) ?_ | refine IntG.nu64 (by omega) ?_ | refine IntG.wr' rfl ?_ | refine Chk.mk (by omega) ?_ | (refine BrG.id ?_; first | with_reducible refine BrG.t ?_ | with_reducible refine BrG.f ?_ | with_reducible refine BrG.notG ?_ | with_reducible refine BrG.nn ?_ | with_reducible refine BrG.ns ?_ | refine BrG.pos (by omega) ?_ | refine BrG.neg (by omega) ?_) | refine Chk.mk (ptr_ok tblOk rfl rfl) ?_)
    refine (Open_calm hF' (hS.part (L := L')) ps rfl hok' (by omega) _ rfl).mono ?_
    rintro _ w10 ⟨bl2, a4, cap4, Lv4, hbl2, rfl, hv4, hS'⟩
    have hS := hS.call (L := L') hS'
    have hS := hS.sub (H' := Lv3 ++ Lv4) (List.Sublist.cons _ (List.Sublist.append (List.Sublist.refl _) (List.Sublist.cons _ (List.sublist_append_left _ _))))
    repeat (first | refine SemW.run tblOk ?_ | refine IntG.nw (by omega) ?_ | refine IntG.nu8 (by omega) ?_ | refine IntG.nu32 (by omega) ?_ | refine IntG.nu64 (by omega) ?_ | refine IntG.wr' rfl ?_ | refine Chk.mk (by omega) ?_ | (refine BrG.id ?_; first | with_reducible refine BrG.t ?_ | with_reducible refine BrG.f ?_ | with_reducible refine BrG.notG ?_ | with_reducible refine BrG.nn ?_ | with_reducible refine BrG.ns ?_ | refine BrG.pos (by omega) ?_ | refine BrG.neg (by omega) ?_) | refine Chk.mk (ptr_ok tblOk rfl rfl) ?_)
    refine SemW.loop (fun k : Nat => [(0, .slice a ps.length cap), (7, .slice a3 ps.length cap3), (10, .slice a4 ps.length cap4), (65, .slice a3 ps.length cap3), (66, .int .i64 ps.length), (67, .int .i64 k)])
      (fun k w' => k ≤ ps.length ∧ ∃ xs Lx, Vec T_string 1 a3 ps.length cap3 xs Lx ∧ St w [] (Lx ++ Lv4) w') (fun k => ps.length - k) 0
      ⟨rfl, rfl, rfl, rfl, rfl, rfl, trivial⟩ ⟨Nat.zero_le _, _, Lv3, hv3, hS⟩ ?_
    rintro k w11 ⟨hk, xs, Lx, hvx, hS⟩
    by_cases hkl : k < ps.length
    · obtain ⟨gx, lx, rfl, hx, hl, hn, rfl⟩ : ∃ g l, a3 = some ⟨g, 0, none⟩ ∧ xs.length = ps.length * 1 ∧ xs.length + l.length = cap3 * 1 ∧ ps.length ≤ cap3 ∧ Lx = [(g, .cells ⟨xs ++ l⟩ T_string (0, 0))] := by
        rcases hvx.inv with ⟨_, h, _⟩ | h
        · omega
        · exact h
      have hS : St w [] ((gx, .cells ⟨xs ++ lx⟩ T_string (0, 0)) :: Lv4) w11 := hS
      repeat (first | refine SemW.run tblOk ?_ | refine IntG.nw (by omega) ?_ | refine IntG.nu8 (by omega) ?_ | refine IntG.nu32 (by omega) ?_ | refine IntG.nu64 (by omega) ?_ | refine IntG.wr' rfl ?_ | refine Chk.mk (by omega) ?_ | (refine BrG.id ?_; first | with_reducible refine BrG.t ?_ | with_reducible refine BrG.f ?_ | with_reducible refine BrG.notG ?_ | with_reducible refine BrG.nn ?_ | with_reducible refine BrG.ns ?_ | refine BrG.pos (by omega) ?_ | refine BrG.neg (by omega) ?_) | refine Chk.mk (ptr_ok tblOk rfl rfl) ?_)
      refine hS.stI rfl (by simp; omega) ?_
      intro w12 hS
      repeat (first | refine SemW.run tblOk ?_ | refine IntG.nw (by omega) ?_ | refine IntG.nu8 (by omega) ?_ | refine IntG.nu32 (by omega) ?_ | refine IntG.nu64 (by omega) ?_ | refine IntG.wr' rfl ?_ | refine Chk.mk (by omega) ?_ | (refine BrG.id ?_; first | with_reducible refine BrG.t ?_ | with_reducible refine BrG.f ?_ | with_reducible refine BrG.notG ?_ | with_reducible refine BrG.nn ?_ | with_reducible refine BrG.ns ?_ | refine BrG.pos (by omega) ?_ | refine BrG.neg (by omega) ?_) | refine Chk.mk (ptr_ok tblOk rfl rfl) ?_)
      refine ⟨k + 1, ⟨rfl, rfl, rfl, rfl, rfl, rfl, trivial⟩, ⟨by omega, xs.set k (Str [109, 97, 114, 107]), _, Vec.row gx _ _ _ lx (by simp; omega) (by simp; omega) hn, ?_⟩, by omega⟩
      have e : (xs ++ lx).set (0 + (k : Int).toNat * 1) (Str [109, 97, 114, 107]) = xs.set k (Str [109, 97, 114, 107]) ++ lx := by
        rw [show 0 + (k : Int).toNat * 1 = k by omega, List.set_append_left _ _ (by omega)]
      rw [← e]
      exact hS
    · have hke : k = ps.length := by omega
      subst hke
      repeat (first | refine SemW.run tblOk ?_ | refine IntG.nw (by omega) ?_ | refine IntG.nu8 (by omega) ?_ | refine IntG.nu32 (by omega) ?_ | refine IntG.nu64 (by omega) ?_ | refine IntG.wr' rfl ?_ | refine Chk.mk (by omega) ?_ | (refine BrG.id ?_; first | with_reducible refine BrG.t ?_ | with_reducible refine BrG.f ?_ | with_reducible refine BrG.notG ?_ | with_reducible refine BrG.nn ?_ | with_reducible refine BrG.ns ?_ | refine BrG.pos (by omega) ?_ | refine BrG.neg (by omega) ?_) | refine Chk.mk (ptr_ok tblOk rfl rfl) ?_)
      refine hS.al ?_
      intro g5 w12 _ hS
      repeat (first | refine SemW.run tblOk ?_ | refine IntG.nw (by omega) ?_ | refine IntG.nu8 (by omega) ?_ | refine IntG.nu32 (by omega) ?_ | refine IntG.nu64 (by omega) ?_ | refine IntG.wr' rfl ?_ | refine Chk.mk (by omega) ?_ | (refine BrG.id ?_; first | with_reducible refine BrG.t ?_ | with_reducible refine BrG.f ?_ | with_reducible refine BrG.notG ?_ | with_reducible refine BrG.nn ?_ | with_reducible refine BrG.ns ?_ | refine BrG.pos (by omega) ?_ | refine BrG.neg (by omega) ?_) | refine Chk.mk (ptr_ok tblOk rfl rfl) ?_)
      refine St.app (sz := 1) (m := 1) tblOk rfl rfl rfl rfl hS hvx (news := [Str [109, 111, 114, 101]]) rfl (hS.arr (b := g5) (by simp)) rfl (by show (_ + _) * 16 ≤ _; omega) (by omega) ?_
      intro a6 cap6 Lv6 w13 hv6 hS
      have hS := hS.sub (List.sublist_cons_self _ _)
      repeat (first | refine SemW.run tblOk ?_ | refine IntG.nw (by omega) ?_ | refine IntG.nu8 (by omega) ?_ | refine IntG.nu32 (by omega) ?_ | refine IntG.nu64 (by omega) ?_ | refine IntG.wr' rfl ?_ | refine Chk.mk (by omega) ?_ | (refine BrG.id ?_; first | with_reducible refine BrG.t ?_ | with_reducible refine BrG.f ?_ | with_reducible refine BrG.notG ?_ | with_reducible refine BrG.nn ?_ | with_reducible refine BrG.ns ?_ | refine BrG.pos (by omega) ?_ | refine BrG.neg (by omega) ?_) | refine Chk.mk (ptr_ok tblOk rfl rfl) ?_)
      refine (Same_spec (ps := ps) (qs := ps) (hv4.arr hS (by simp)) (hS.arrOld ha) (by omega)).mono ?_
      rintro _ w14 ⟨rfl, hS'⟩
      have hS := hS.call0 hS'
      rw [decide_eq_true (rfl : ps = ps)]
      repeat (first | refine SemW.run tblOk ?_ | refine IntG.nw (by omega) ?_ | refine IntG.nu8 (by omega) ?_ | refine IntG.nu32 (by omega) ?_ | refine IntG.nu64 (by omega) ?_ | refine IntG.wr' rfl ?_ | refine Chk.mk (by omega) ?_ | (refine BrG.id ?_; first | with_reducible refine BrG.t ?_ | with_reducible refine BrG.f ?_ | with_reducible refine BrG.notG ?_ | with_reducible refine BrG.nn ?_ | with_reducible refine BrG.ns ?_ | refine BrG.pos (by omega) ?_ | refine BrG.neg (by omega) ?_) | refine Chk.mk (ptr_ok tblOk rfl rfl) ?_)
      refine ⟨?_, hS.nil⟩
      rw [decide_eq_true (show ((ps.length + 1 : Nat) : Int) = (ps.length : Int) + 1 by omega)]
end Go.Proofs.Ytnmmiiffeenjbaa
