/- The document's digest: filled, Sum, pad, Mac. -/
import Derived.Test.YtklppplnkpnbhaaDoorRef19S
namespace Go.Eng
open Go
section
variable {P : Program} {T0 : Tbl}
theorem sliceArrA (hT : TOk P T0) {t e : TypeId} {i : TI} {n sz : Nat} (hi : tf T0 t = some i) (hk : i.k = .arr n e sz) {b off : Nat} {C : World → Prop} {K : Value → Prop} (hK : K (.slice (some ⟨b, off, none⟩) n n)) :
    RdG P (Instr.sliceAt t (.pointer (some ⟨b, off, none⟩)) none none none) C K := by
  refine ⟨_, fun w _ => ?_, hK⟩
  have ht := und_of hT hi; rw [hk] at ht
  obtain ⟨hu, hs⟩ := ht
  cases hinf : P.info? e with
  | none => rw [hinf] at hs; simp at hs
  | some inf =>
    rw [hinf] at hs
    have hs1 : inf.size = sz := by simpa using hs
    have e1 : P.elem t = e := by simp [Program.elem, hu]
    have e2 : P.arrayLen t = n := by simp [Program.arrayLen, hu]
    rw [run_sliceAt_array_all w t ⟨b, off, none⟩ (by rw [e1, e2]; exact hu)]
    rw [e1, e2]
    simp [sizeOf, typeInfo, hinf, slicedAt, Addr.add_eq]
end
/-- []byte(s): a slice of the call's own. -/
theorem St.toBytesV {P : Program} {T0 : Tbl} (hT : TOk P T0) {t u e : TypeId} {i iu ie : TI} (hi : tf T0 t = some i) (hk : i.k = .slice e 1) (hiu : tf T0 u = some iu) (hku : iu.k = .str) (hie : tf T0 e = some ie) (hke : ie.k = .int .u8)
    {w0 w : World} {T : List Nat} {H : Heap} (hS : St w0 T H w) {s : List UInt8} {K : Value → World → Prop}
    (h : ∀ a c L w', VecO e a s.length c (s.map byteV) L → St w0 T (L ++ H) w' → K (.slice a s.length c) w') : RunG P (convert u t (Str s)) w K := by
  have h1 := und_of hT hiu; rw [hku] at h1
  have h2 := und_of hT hi; rw [hk] at h2
  have h3 := und_of hT hie; rw [hke] at h3
  have hge := grownCap_ge w s.length 0 e
  have e1 : bytesRow ⟨⟨s⟩⟩ (grownCap w s.length 0 e) = ⟨[] ++ (s.map byteV ++ (List.replicate (grownCap w s.length 0 e - s.length) (.int .u8 0) ++ []))⟩ := by
    apply Array.ext'
    simp [bytesRow]; rfl
  have hrun : (convert u t (Str s)).run P w = .ok (.slice (some ⟨w.heap.size, 0, none⟩) s.length (grownCap w s.length 0 e))
      (w.drew.alloc (.cells (bytesRow ⟨⟨s⟩⟩ (grownCap w s.length 0 e)) e ((bytesRow ⟨⟨s⟩⟩ (grownCap w s.length 0 e)).size, (bytesRow ⟨⟨s⟩⟩ (grownCap w s.length 0 e)).size + 1))) := run_bytes_of_string w u t e ⟨⟨s⟩⟩ h1 h2.1 h3
  have hv := VecO.row (e := e) w.drew.heap.size [] (s.map byteV) (List.replicate (grownCap w s.length 0 e - s.length) (.int .u8 0)) [] s.length (grownCap w s.length 0 e) ((bytesRow ⟨⟨s⟩⟩ (grownCap w s.length 0 e)).size, (bytesRow ⟨⟨s⟩⟩ (grownCap w s.length 0 e)).size + 1)
    (.inr (by rw [e1]; simp)) (by simp) (by simp; omega)
  refine RunG.of hrun (h _ _ _ _ hv ?_)
  have := hS.drew.alloc (.cells (bytesRow ⟨⟨s⟩⟩ (grownCap w s.length 0 e)) e ((bytesRow ⟨⟨s⟩⟩ (grownCap w s.length 0 e)).size, (bytesRow ⟨⟨s⟩⟩ (grownCap w s.length 0 e)).size + 1))
  rw [← e1]
  exact this
end Go.Eng
namespace Go.Proofs.YtklppplnkpnbhaaDoor
open Go Go.Eng Go.Proofs

def be8to (n k : Nat) : Bytes := List.replicate (8 - k) 0 ++ (be8 n).drop (8 - k)
theorem be8to_set (n k : Nat) (hk : k < 8) : ((be8to n k).map byteV).set (7 - k) (byteV (UInt8.ofNat (n / 256 ^ k))) = (be8to n (k + 1)).map byteV := by
  match k, hk with
  | 0, _ => simp [be8to, be8]
  | 1, _ => simp [be8to, be8]
  | 2, _ => simp [be8to, be8]
  | 3, _ => simp [be8to, be8]
  | 4, _ => simp [be8to, be8]
  | 5, _ => simp [be8to, be8]
  | 6, _ => simp [be8to, be8]
  | 7, _ => simp [be8to, be8]
theorem be8to_len (n k : Nat) (hk : k ≤ 8) : (be8to n k).length = 8 := by
  unfold be8to be8
  rw [List.length_append, List.length_replicate, List.length_drop]
  show 8 - k + (8 - (8 - k)) = 8
  omega
set_option maxHeartbeats 4000000 in
set_option maxRecDepth 4000 in
theorem filledE_spec {w : World} {t : Bytes} (ht : t.length ≤ 70368744177664) :
    Cl Tryd.prog f_tarmacref19_filled [Str t] w fun v w' => ∃ a c L, v = .slice a (filled t).length c ∧ VecO T_uint8 a (filled t).length c ((filled t).map byteV) L ∧ St w [] L w' := by
  have hS := St.start w
  have hz : zerosFor t.length = (119 - t.length % 64) % 64 := rfl
  refine en_tarmacref19_filled rfl ?_
  repeat (first | refine SemW.run tblOk ?_ | refine IntG.nw (by omega) ?_ | refine IntG.nu8 (by omega) ?_ | refine IntG.nu32 (by omega) ?_ | refine IntG.nu64 (by omega) ?_ | refine IntG.wr' rfl ?_ | refine Chk.mk (by omega) ?_ | (refine BrG.id ?_; first | with_reducible refine BrG.t ?_ | with_reducible refine BrG.f ?_ | with_reducible refine BrG.notG ?_ | with_reducible refine BrG.nn ?_ | with_reducible refine BrG.ns ?_ | refine BrG.pos (by omega) ?_ | refine BrG.neg (by omega) ?_ | with_reducible refine BrG.pos rfl ?_ | refine BrG.pos (by assumption) ?_ | refine BrG.neg (by assumption) ?_) | refine Chk.mk (ptr_ok tblOk rfl rfl) ?_)
  refine St.toBytesV tblOk rfl rfl rfl rfl rfl rfl hS ?_
  intro a0 c0 L0 w1 hv hS
  rw [List.append_nil] at hS
  repeat (first | refine SemW.run tblOk ?_ | refine IntG.nw (by omega) ?_ | refine IntG.nu8 (by omega) ?_ | refine IntG.nu32 (by omega) ?_ | refine IntG.nu64 (by omega) ?_ | refine IntG.wr' rfl ?_ | refine Chk.mk (by omega) ?_ | (refine BrG.id ?_; first | with_reducible refine BrG.t ?_ | with_reducible refine BrG.f ?_ | with_reducible refine BrG.notG ?_ | with_reducible refine BrG.nn ?_ | with_reducible refine BrG.ns ?_ | refine BrG.pos (by omega) ?_ | refine BrG.neg (by omega) ?_ | with_reducible refine BrG.pos rfl ?_ | refine BrG.pos (by assumption) ?_ | refine BrG.neg (by assumption) ?_) | refine Chk.mk (ptr_ok tblOk rfl rfl) ?_)
  refine hS.al ?_
  intro r w2 _ hS
  repeat (first | refine SemW.run tblOk ?_ | refine IntG.nw (by omega) ?_ | refine IntG.nu8 (by omega) ?_ | refine IntG.nu32 (by omega) ?_ | refine IntG.nu64 (by omega) ?_ | refine IntG.wr' rfl ?_ | refine Chk.mk (by omega) ?_ | (refine BrG.id ?_; first | with_reducible refine BrG.t ?_ | with_reducible refine BrG.f ?_ | with_reducible refine BrG.notG ?_ | with_reducible refine BrG.nn ?_ | with_reducible refine BrG.ns ?_ | refine BrG.pos (by omega) ?_ | refine BrG.neg (by omega) ?_ | with_reducible refine BrG.pos rfl ?_ | refine BrG.pos (by assumption) ?_ | refine BrG.neg (by assumption) ?_) | refine Chk.mk (ptr_ok tblOk rfl rfl) ?_)
  refine St.appO (m := 1) tblOk rfl rfl rfl rfl hS hv (news := [(128 : UInt8)].map byteV) rfl (by have := hS.arr (b := r) (T' := []) (by simp); exact this) rfl (by show (_ + _) * 1 ≤ _; omega) (by omega) ?_
  intro a1 c1 L1 w3 hv hS
  have hS := hS.sub (H' := L1) (List.sublist_cons_self _ _)
  rw [← List.map_append] at hv
  repeat (first | refine SemW.run tblOk ?_ | refine IntG.nw (by omega) ?_ | refine IntG.nu8 (by omega) ?_ | refine IntG.nu32 (by omega) ?_ | refine IntG.nu64 (by omega) ?_ | refine IntG.wr' rfl ?_ | refine Chk.mk (by omega) ?_ | (refine BrG.id ?_; first | with_reducible refine BrG.t ?_ | with_reducible refine BrG.f ?_ | with_reducible refine BrG.notG ?_ | with_reducible refine BrG.nn ?_ | with_reducible refine BrG.ns ?_ | refine BrG.pos (by omega) ?_ | refine BrG.neg (by omega) ?_ | with_reducible refine BrG.pos rfl ?_ | refine BrG.pos (by assumption) ?_ | refine BrG.neg (by assumption) ?_) | refine Chk.mk (ptr_ok tblOk rfl rfl) ?_)
  refine SemW.loop (fun x : Nat × Option Addr × Nat => [(0, Str t), (3, .slice x.2.1 (t.length + 1 + x.1) x.2.2)])
    (fun x w' => x.1 ≤ zerosFor t.length ∧ ∃ L, VecO T_uint8 x.2.1 (t.length + 1 + x.1) x.2.2 ((t ++ ([128] ++ List.replicate x.1 0)).map byteV) L ∧ St w [] L w') (fun x => zerosFor t.length - x.1) (0, a1, c1)
    ⟨rfl, rfl, trivial⟩ ⟨Nat.zero_le _, L1, by simpa using hv, hS⟩ ?_
  rintro ⟨k, a2, c2⟩ w4 ⟨hk, L2, hv, hS⟩
  simp only at hk hv hS ⊢
  have hzl : zerosFor t.length < 64 := by rw [hz]; omega
  have e1 : (((t.length + 1 + k : Nat) : Int).tmod 64) = (((t.length + 1 + k) % 64 : Nat) : Int) := tmodN _ 64
  by_cases hke : k < zerosFor t.length
  · have hne : (t.length + 1 + k) % 64 ≠ 56 := by omega
    repeat (first | refine SemW.run tblOk ?_ | refine IntG.nw (by omega) ?_ | refine IntG.nu8 (by omega) ?_ | refine IntG.nu32 (by omega) ?_ | refine IntG.nu64 (by omega) ?_ | refine IntG.wr' rfl ?_ | refine Chk.mk (by omega) ?_ | (refine BrG.id ?_; first | with_reducible refine BrG.t ?_ | with_reducible refine BrG.f ?_ | with_reducible refine BrG.notG ?_ | with_reducible refine BrG.nn ?_ | with_reducible refine BrG.ns ?_ | refine BrG.pos (by omega) ?_ | refine BrG.neg (by omega) ?_ | with_reducible refine BrG.pos rfl ?_ | refine BrG.pos (by assumption) ?_ | refine BrG.neg (by assumption) ?_) | refine Chk.mk (ptr_ok tblOk rfl rfl) ?_)
    rw [e1]
    repeat (first | refine SemW.run tblOk ?_ | refine IntG.nw (by omega) ?_ | refine IntG.nu8 (by omega) ?_ | refine IntG.nu32 (by omega) ?_ | refine IntG.nu64 (by omega) ?_ | refine IntG.wr' rfl ?_ | refine Chk.mk (by omega) ?_ | (refine BrG.id ?_; first | with_reducible refine BrG.t ?_ | with_reducible refine BrG.f ?_ | with_reducible refine BrG.notG ?_ | with_reducible refine BrG.nn ?_ | with_reducible refine BrG.ns ?_ | refine BrG.pos (by omega) ?_ | refine BrG.neg (by omega) ?_ | with_reducible refine BrG.pos rfl ?_ | refine BrG.pos (by assumption) ?_ | refine BrG.neg (by assumption) ?_) | refine Chk.mk (ptr_ok tblOk rfl rfl) ?_)
    refine hS.al ?_
    intro r2 w5 _ hS
    repeat (first | refine SemW.run tblOk ?_ | refine IntG.nw (by omega) ?_ | refine IntG.nu8 (by omega) ?_ | refine IntG.nu32 (by omega) ?_ | refine IntG.nu64 (by omega) ?_ | refine IntG.wr' rfl ?_ | refine Chk.mk (by omega) ?_ | (refine BrG.id ?_; first | with_reducible refine BrG.t ?_ | with_reducible refine BrG.f ?_ | with_reducible refine BrG.notG ?_ | with_reducible refine BrG.nn ?_ | with_reducible refine BrG.ns ?_ | refine BrG.pos (by omega) ?_ | refine BrG.neg (by omega) ?_ | with_reducible refine BrG.pos rfl ?_ | refine BrG.pos (by assumption) ?_ | refine BrG.neg (by assumption) ?_) | refine Chk.mk (ptr_ok tblOk rfl rfl) ?_)
    refine St.appO (m := 1) tblOk rfl rfl rfl rfl hS hv (news := [(0 : UInt8)].map byteV) rfl (by have := hS.arr (b := r2) (T' := []) (by simp); exact this) rfl (by show (_ + _) * 1 ≤ _; omega) (by omega) ?_
    intro a3 c3 L3 w6 hv hS
    have hS := hS.sub (H' := L3) (List.sublist_cons_self _ _)
    rw [← List.map_append] at hv
    have e : t ++ ([128] ++ List.replicate k 0) ++ [0] = t ++ ([128] ++ List.replicate (k + 1) 0) := by
      rw [List.replicate_succ', List.append_assoc, List.append_assoc]
    rw [e] at hv
    repeat (first | refine SemW.run tblOk ?_ | refine IntG.nw (by omega) ?_ | refine IntG.nu8 (by omega) ?_ | refine IntG.nu32 (by omega) ?_ | refine IntG.nu64 (by omega) ?_ | refine IntG.wr' rfl ?_ | refine Chk.mk (by omega) ?_ | (refine BrG.id ?_; first | with_reducible refine BrG.t ?_ | with_reducible refine BrG.f ?_ | with_reducible refine BrG.notG ?_ | with_reducible refine BrG.nn ?_ | with_reducible refine BrG.ns ?_ | refine BrG.pos (by omega) ?_ | refine BrG.neg (by omega) ?_ | with_reducible refine BrG.pos rfl ?_ | refine BrG.pos (by assumption) ?_ | refine BrG.neg (by assumption) ?_) | refine Chk.mk (ptr_ok tblOk rfl rfl) ?_)
    exact ⟨(k + 1, a3, c3), ⟨rfl, rfl, trivial⟩, ⟨by simp only; omega, L3, hv, hS⟩, by simp only; omega⟩
  have hke : k = zerosFor t.length := by omega
  have hn56 : (t.length + 1 + k) % 64 = 56 := by omega
  have hfl : t ++ ([128] ++ List.replicate k 0) ++ be8 (8 * t.length) = filled t := by unfold filled; rw [← hke]
  have hfll : (filled t).length = t.length + 1 + k + 8 := by rw [← hfl]; simp [be8]; omega
  repeat (first | refine SemW.run tblOk ?_ | refine IntG.nw (by omega) ?_ | refine IntG.nu8 (by omega) ?_ | refine IntG.nu32 (by omega) ?_ | refine IntG.nu64 (by omega) ?_ | refine IntG.wr' rfl ?_ | refine Chk.mk (by omega) ?_ | (refine BrG.id ?_; first | with_reducible refine BrG.t ?_ | with_reducible refine BrG.f ?_ | with_reducible refine BrG.notG ?_ | with_reducible refine BrG.nn ?_ | with_reducible refine BrG.ns ?_ | refine BrG.pos (by omega) ?_ | refine BrG.neg (by omega) ?_ | with_reducible refine BrG.pos rfl ?_ | refine BrG.pos (by assumption) ?_ | refine BrG.neg (by assumption) ?_) | refine Chk.mk (ptr_ok tblOk rfl rfl) ?_)
  rw [e1]
  repeat (first | refine SemW.run tblOk ?_ | refine IntG.nw (by omega) ?_ | refine IntG.nu8 (by omega) ?_ | refine IntG.nu32 (by omega) ?_ | refine IntG.nu64 (by omega) ?_ | refine IntG.wr' rfl ?_ | refine Chk.mk (by omega) ?_ | (refine BrG.id ?_; first | with_reducible refine BrG.t ?_ | with_reducible refine BrG.f ?_ | with_reducible refine BrG.notG ?_ | with_reducible refine BrG.nn ?_ | with_reducible refine BrG.ns ?_ | refine BrG.pos (by omega) ?_ | refine BrG.neg (by omega) ?_ | with_reducible refine BrG.pos rfl ?_ | refine BrG.pos (by assumption) ?_ | refine BrG.neg (by assumption) ?_) | refine Chk.mk (ptr_ok tblOk rfl rfl) ?_)
  refine hS.al ?_
  intro eb w7 _ hS
  have hS : St w [] ((eb, .cells ⟨(be8to (8 * t.length) 0).map byteV⟩ T_8_uint8 (0, 0)) :: L2) w7 := hS
  repeat (first | refine SemW.run tblOk ?_ | refine IntG.nw (by omega) ?_ | refine IntG.nu8 (by omega) ?_ | refine IntG.nu32 (by omega) ?_ | refine IntG.nu64 (by omega) ?_ | refine IntG.wr' rfl ?_ | refine Chk.mk (by omega) ?_ | (refine BrG.id ?_; first | with_reducible refine BrG.t ?_ | with_reducible refine BrG.f ?_ | with_reducible refine BrG.notG ?_ | with_reducible refine BrG.nn ?_ | with_reducible refine BrG.ns ?_ | refine BrG.pos (by omega) ?_ | refine BrG.neg (by omega) ?_ | with_reducible refine BrG.pos rfl ?_ | refine BrG.pos (by assumption) ?_ | refine BrG.neg (by assumption) ?_) | refine Chk.mk (ptr_ok tblOk rfl rfl) ?_)
  refine SemW.loop (fun j : Nat => [(3, .slice a2 (t.length + 1 + k) c2), (4, .int .u64 (8 * t.length / 256 ^ j : Nat)), (5, ptr eb), (6, .int .i64 (7 - (j : Int)))])
    (fun j w' => j ≤ 8 ∧ St w [] ((eb, .cells ⟨(be8to (8 * t.length) j).map byteV⟩ T_8_uint8 (0, 0)) :: L2) w') (fun j => 8 - j) 0
    ⟨rfl, congrArg (Value.int .u64) (by simp; omega), rfl, rfl, trivial⟩ ⟨Nat.zero_le _, hS⟩ ?_
  rintro j w8 ⟨hj, hS⟩
  by_cases hjl : j < 8
  · have hst := be8to_set (8 * t.length) j hjl
    have hnx : 8 * t.length / 256 ^ (j + 1) = 8 * t.length / 256 ^ j / 256 := by rw [Nat.pow_succ, Nat.div_div_eq_div_mul]
    have hlt : 8 * t.length / 256 ^ j ≤ 8 * t.length := Nat.div_le_self _ _
    generalize 8 * t.length / 256 ^ j = M at hst hnx hlt ⊢
    have e2 : ((M : Int).tmod 256) = ((M % 256 : Nat) : Int) := tmodN M 256
    have e3 : ((M : Int).tdiv 256) = ((M / 256 : Nat) : Int) := tdivN M 256
    have hbl := be8to_len (8 * t.length) j hj
    repeat (first | refine SemW.run tblOk ?_ | refine IntG.nw (by omega) ?_ | refine IntG.nu8 (by omega) ?_ | refine IntG.nu32 (by omega) ?_ | refine IntG.nu64 (by omega) ?_ | refine IntG.wr' rfl ?_ | refine Chk.mk (by omega) ?_ | (refine BrG.id ?_; first | with_reducible refine BrG.t ?_ | with_reducible refine BrG.f ?_ | with_reducible refine BrG.notG ?_ | with_reducible refine BrG.nn ?_ | with_reducible refine BrG.ns ?_ | refine BrG.pos (by omega) ?_ | refine BrG.neg (by omega) ?_ | with_reducible refine BrG.pos rfl ?_ | refine BrG.pos (by assumption) ?_ | refine BrG.neg (by assumption) ?_) | refine Chk.mk (ptr_ok tblOk rfl rfl) ?_)
    rw [e2]
    repeat (first | refine SemW.run tblOk ?_ | refine IntG.nw (by omega) ?_ | refine IntG.nu8 (by omega) ?_ | refine IntG.nu32 (by omega) ?_ | refine IntG.nu64 (by omega) ?_ | refine IntG.wr' rfl ?_ | refine Chk.mk (by omega) ?_ | (refine BrG.id ?_; first | with_reducible refine BrG.t ?_ | with_reducible refine BrG.f ?_ | with_reducible refine BrG.notG ?_ | with_reducible refine BrG.nn ?_ | with_reducible refine BrG.ns ?_ | refine BrG.pos (by omega) ?_ | refine BrG.neg (by omega) ?_ | with_reducible refine BrG.pos rfl ?_ | refine BrG.pos (by assumption) ?_ | refine BrG.neg (by assumption) ?_) | refine Chk.mk (ptr_ok tblOk rfl rfl) ?_)
    refine hS.stI rfl (by rw [List.length_map, hbl]; omega) ?_
    intro w9 hS
    have hS : St w [] ((eb, .cells ⟨(be8to (8 * t.length) (j + 1)).map byteV⟩ T_8_uint8 (0, 0)) :: L2) w9 := by
      rw [← hst]
      have e0 : 0 + (7 - (j : Int)).toNat * 1 = 7 - j := by omega
      rw [e0] at hS
      have e4 : byteV (UInt8.ofNat M) = Value.int .u8 ((M % 256 : Nat) : Int) := by simp [byteV]
      rw [e4]; exact hS
    repeat (first | refine SemW.run tblOk ?_ | refine IntG.nw (by omega) ?_ | refine IntG.nu8 (by omega) ?_ | refine IntG.nu32 (by omega) ?_ | refine IntG.nu64 (by omega) ?_ | refine IntG.wr' rfl ?_ | refine Chk.mk (by omega) ?_ | (refine BrG.id ?_; first | with_reducible refine BrG.t ?_ | with_reducible refine BrG.f ?_ | with_reducible refine BrG.notG ?_ | with_reducible refine BrG.nn ?_ | with_reducible refine BrG.ns ?_ | refine BrG.pos (by omega) ?_ | refine BrG.neg (by omega) ?_ | with_reducible refine BrG.pos rfl ?_ | refine BrG.pos (by assumption) ?_ | refine BrG.neg (by assumption) ?_) | refine Chk.mk (ptr_ok tblOk rfl rfl) ?_)
    rw [e3]
    repeat (first | refine SemW.run tblOk ?_ | refine IntG.nw (by omega) ?_ | refine IntG.nu8 (by omega) ?_ | refine IntG.nu32 (by omega) ?_ | refine IntG.nu64 (by omega) ?_ | refine IntG.wr' rfl ?_ | refine Chk.mk (by omega) ?_ | (refine BrG.id ?_; first | with_reducible refine BrG.t ?_ | with_reducible refine BrG.f ?_ | with_reducible refine BrG.notG ?_ | with_reducible refine BrG.nn ?_ | with_reducible refine BrG.ns ?_ | refine BrG.pos (by omega) ?_ | refine BrG.neg (by omega) ?_ | with_reducible refine BrG.pos rfl ?_ | refine BrG.pos (by assumption) ?_ | refine BrG.neg (by assumption) ?_) | refine Chk.mk (ptr_ok tblOk rfl rfl) ?_)
    refine ⟨j + 1, ⟨rfl, congrArg (Value.int .u64) (by rw [hnx]), rfl, ?_, trivial⟩, ⟨by omega, hS⟩, by omega⟩
    show _ = (_ : Value)
    rw [show (7 - ((j + 1 : Nat) : Int)) = 7 - (j : Int) - 1 by omega]
  · have hj8 : j = 8 := by omega
    subst hj8
    have hb8 : be8to (8 * t.length) 8 = be8 (8 * t.length) := by simp [be8to]
    rw [hb8] at hS
    repeat (first | refine SemW.run tblOk ?_ | refine IntG.nw (by omega) ?_ | refine IntG.nu8 (by omega) ?_ | refine IntG.nu32 (by omega) ?_ | refine IntG.nu64 (by omega) ?_ | refine IntG.wr' rfl ?_ | refine Chk.mk (by omega) ?_ | (refine BrG.id ?_; first | with_reducible refine BrG.t ?_ | with_reducible refine BrG.f ?_ | with_reducible refine BrG.notG ?_ | with_reducible refine BrG.nn ?_ | with_reducible refine BrG.ns ?_ | refine BrG.pos (by omega) ?_ | refine BrG.neg (by omega) ?_ | with_reducible refine BrG.pos rfl ?_ | refine BrG.pos (by assumption) ?_ | refine BrG.neg (by assumption) ?_) | refine Chk.mk (ptr_ok tblOk rfl rfl) ?_)
    refine sliceArrA (n := 8) (sz := 1) tblOk (t := T_8_uint8) rfl rfl ?_
    repeat (first | refine SemW.run tblOk ?_ | refine IntG.nw (by omega) ?_ | refine IntG.nu8 (by omega) ?_ | refine IntG.nu32 (by omega) ?_ | refine IntG.nu64 (by omega) ?_ | refine IntG.wr' rfl ?_ | refine Chk.mk (by omega) ?_ | (refine BrG.id ?_; first | with_reducible refine BrG.t ?_ | with_reducible refine BrG.f ?_ | with_reducible refine BrG.notG ?_ | with_reducible refine BrG.nn ?_ | with_reducible refine BrG.ns ?_ | refine BrG.pos (by omega) ?_ | refine BrG.neg (by omega) ?_ | with_reducible refine BrG.pos rfl ?_ | refine BrG.pos (by assumption) ?_ | refine BrG.neg (by assumption) ?_) | refine Chk.mk (ptr_ok tblOk rfl rfl) ?_)
    refine St.appO (m := 8) tblOk rfl rfl rfl rfl hS hv (news := (be8 (8 * t.length)).map byteV) rfl (hS.arr (b := eb) (by simp)) rfl (by show (_ + _) * 1 ≤ _; omega) (by omega) ?_
    intro a4 c4 L4 w9 hv hS
    have hS := hS.sub (H' := L4) (List.sublist_cons_self _ _)
    rw [← List.map_append, hfl, ← hfll] at hv
    rw [← hfll]
    repeat (first | refine SemW.run tblOk ?_ | refine IntG.nw (by omega) ?_ | refine IntG.nu8 (by omega) ?_ | refine IntG.nu32 (by omega) ?_ | refine IntG.nu64 (by omega) ?_ | refine IntG.wr' rfl ?_ | refine Chk.mk (by omega) ?_ | (refine BrG.id ?_; first | with_reducible refine BrG.t ?_ | with_reducible refine BrG.f ?_ | with_reducible refine BrG.notG ?_ | with_reducible refine BrG.nn ?_ | with_reducible refine BrG.ns ?_ | refine BrG.pos (by omega) ?_ | refine BrG.neg (by omega) ?_ | with_reducible refine BrG.pos rfl ?_ | refine BrG.pos (by assumption) ?_ | refine BrG.neg (by assumption) ?_) | refine Chk.mk (ptr_ok tblOk rfl rfl) ?_)
    exact ⟨a4, c4, L4, rfl, hv, hS⟩
end Go.Proofs.YtklppplnkpnbhaaDoor
