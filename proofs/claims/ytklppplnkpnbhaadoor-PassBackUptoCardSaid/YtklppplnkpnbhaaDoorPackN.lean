/- Package pack: the writer. -/
import Derived.Test.YtklppplnkpnbhaaDoorPackL
import Derived.Test.YtklppplnkpnbhaaDoorTbl
import Derived.Test.YtklppplnkpnbhaaDoorConv
import Derived.Laws.IdiomStrings
namespace Go.Proofs.YtklppplnkpnbhaaDoor
open Go Go.Eng Go.Proofs

/-- []byte(s): a block of the call's own. -/
theorem St.toBytes {P : Program} {T0 : Tbl} (hT : TOk P T0) {t u e : TypeId} {i iu ie : TI} (hi : tf T0 t = some i) (hk : i.k = .slice e 1) (hiu : tf T0 u = some iu) (hku : iu.k = .str) (hie : tf T0 e = some ie) (hke : ie.k = .int .u8)
    {w0 w : World} {T : List Nat} {H : Heap} (hS : St w0 T H w) {s : Bytes} {K : Value → World → Prop}
    (h : ∀ b c z fz w', s.length ≤ c ∧ s.length ≤ fz.1 → St w0 T ((b, .cells ⟨s.map byteV ++ z⟩ e fz) :: H) w' → K (.slice (some ⟨b, 0, none⟩) s.length c) w') : RunG P (convert u t (Str s)) w K := by
  have h1 := und_of hT hiu; rw [hku] at h1
  have h2 := und_of hT hi; rw [hk] at h2
  have h3 := und_of hT hie; rw [hke] at h3
  have hge := grownCap_ge w s.length 0 e
  have e1 : bytesRow ⟨⟨s⟩⟩ (grownCap w s.length 0 e) = ⟨s.map byteV ++ List.replicate (grownCap w s.length 0 e - s.length) (.int .u8 0)⟩ := by
    apply Array.ext'
    simp [bytesRow]; rfl
  have hrun : (convert u t (Str s)).run P w = .ok (.slice (some ⟨w.heap.size, 0, none⟩) s.length (grownCap w s.length 0 e))
      (w.drew.alloc (.cells (bytesRow ⟨⟨s⟩⟩ (grownCap w s.length 0 e)) e ((bytesRow ⟨⟨s⟩⟩ (grownCap w s.length 0 e)).size, (bytesRow ⟨⟨s⟩⟩ (grownCap w s.length 0 e)).size + 1))) := run_bytes_of_string w u t e ⟨⟨s⟩⟩ h1 h2.1 h3
  rw [e1] at hrun
  exact RunG.of hrun (h _ _ _ _ _ ⟨hge, by simp⟩ (hS.drew.alloc _))

inductive PackW (b : Nat) (bs : Bytes) : Heap → Prop where
  | mk (a : Option Addr) (cap : Nat) (L : Heap) (hv : Vec T_uint8 1 a bs.length cap (bs.map byteV) L) : PackW b bs ((b, .cells ⟨[.int .i64 bs.length, .slice a bs.length cap]⟩ T_pack_Writer (0, 0)) :: L)
theorem PNew_spec {w : World} : Cl Tryd.prog f_pack_New [] w fun v w' => ∃ b L, v = ptr b ∧ PackW b [] L ∧ St w [] L w' := by
  have hS := St.start w
  refine en_pack_New rfl ?_
  repeat (first | refine SemW.run tblOk ?_ | refine IntG.nw (by omega) ?_ | refine IntG.nu8 (by omega) ?_ | refine IntG.nu32 (by omega) ?_ | refine IntG.nu64 (by omega) ?_ | refine IntG.wr' rfl ?_ | refine Chk.mk (by omega) ?_ | (refine BrG.id ?_; first | with_reducible refine BrG.t ?_ | with_reducible refine BrG.f ?_ | with_reducible refine BrG.notG ?_ | with_reducible refine BrG.nn ?_ | with_reducible refine BrG.ns ?_ | refine BrG.pos (by omega) ?_ | refine BrG.neg (by omega) ?_ | with_reducible refine BrG.pos rfl ?_ | refine BrG.pos (by assumption) ?_ | refine BrG.neg (by assumption) ?_ | refine BrG.pos (by decide) ?_ | refine BrG.neg (by decide) ?_) | refine Chk.mk (ptr_ok tblOk rfl rfl) ?_ | refine Chk.mk (by decide) ?_)
  refine hS.al ?_
  intro b w1 _ hS
  repeat (first | refine SemW.run tblOk ?_ | refine IntG.nw (by omega) ?_ | refine IntG.nu8 (by omega) ?_ | refine IntG.nu32 (by omega) ?_ | refine IntG.nu64 (by omega) ?_ | refine IntG.wr' rfl ?_ | refine Chk.mk (by omega) ?_ | (refine BrG.id ?_; first | with_reducible refine BrG.t ?_ | with_reducible refine BrG.f ?_ | with_reducible refine BrG.notG ?_ | with_reducible refine BrG.nn ?_ | with_reducible refine BrG.ns ?_ | refine BrG.pos (by omega) ?_ | refine BrG.neg (by omega) ?_ | with_reducible refine BrG.pos rfl ?_ | refine BrG.pos (by assumption) ?_ | refine BrG.neg (by assumption) ?_ | refine BrG.pos (by decide) ?_ | refine BrG.neg (by decide) ?_) | refine Chk.mk (ptr_ok tblOk rfl rfl) ?_ | refine Chk.mk (by decide) ?_)
  exact ⟨b, _, rfl, PackW.mk none 0 [] Vec.nil, hS⟩
theorem add_spec {w : World} {b : Nat} {bs : Bytes} {L : Heap} (hW : PackW b bs L) (hh : Holds L w) {a : Option Addr} {cap : Nat} {xs : Bytes} (ha : Arr w (keys L) a (xs.map byteV)) (hlen : bs.length + xs.length ≤ 140737488355328) :
    Cl Tryd.prog f_pack_Writer_add [ptr b, .slice a xs.length cap] w fun _ w' => ∃ L', PackW b (bs ++ xs) L' ∧ St w (keys L) L' w' := by
  have hS := St.enter hh
  generalize hT : keys L = T0 at hS ha ⊢
  obtain ⟨a0, c0, L0, hv⟩ := hW
  refine en_pack_Writer_add rfl ?_
  repeat (first | refine SemW.run tblOk ?_ | refine IntG.nw (by omega) ?_ | refine IntG.nu8 (by omega) ?_ | refine IntG.nu32 (by omega) ?_ | refine IntG.nu64 (by omega) ?_ | refine IntG.wr' rfl ?_ | refine Chk.mk (by omega) ?_ | (refine BrG.id ?_; first | with_reducible refine BrG.t ?_ | with_reducible refine BrG.f ?_ | with_reducible refine BrG.notG ?_ | with_reducible refine BrG.nn ?_ | with_reducible refine BrG.ns ?_ | refine BrG.pos (by omega) ?_ | refine BrG.neg (by omega) ?_ | with_reducible refine BrG.pos rfl ?_ | refine BrG.pos (by assumption) ?_ | refine BrG.neg (by assumption) ?_ | refine BrG.pos (by decide) ?_ | refine BrG.neg (by decide) ?_) | refine Chk.mk (ptr_ok tblOk rfl rfl) ?_ | refine Chk.mk (by decide) ?_ | refine hS.ld rfl ?_ | refine hS.ldn rfl ?_ | (refine hS.st rfl rfl ?_; intro _ hS))
  refine St.app (sz := 1) (m := xs.length) tblOk rfl rfl rfl rfl hS hv (news := xs.map byteV) (by simp) ((hS.arrOld ha).sub (by simp)) (by simp [byteV, Value.oneCell']) (by show (_ + _) * 1 ≤ _; omega) (by omega) ?_
  intro a' c' L' w' hv' hS
  have hl : (bs ++ xs).length = bs.length + xs.length := List.length_append
  rw [← hl, ← List.map_append] at hv'
  rw [← hl]
  repeat (first | refine SemW.run tblOk ?_ | refine IntG.nw (by omega) ?_ | refine IntG.nu8 (by omega) ?_ | refine IntG.nu32 (by omega) ?_ | refine IntG.nu64 (by omega) ?_ | refine IntG.wr' rfl ?_ | refine Chk.mk (by omega) ?_ | (refine BrG.id ?_; first | with_reducible refine BrG.t ?_ | with_reducible refine BrG.f ?_ | with_reducible refine BrG.notG ?_ | with_reducible refine BrG.nn ?_ | with_reducible refine BrG.ns ?_ | refine BrG.pos (by omega) ?_ | refine BrG.neg (by omega) ?_ | with_reducible refine BrG.pos rfl ?_ | refine BrG.pos (by assumption) ?_ | refine BrG.neg (by assumption) ?_ | refine BrG.pos (by decide) ?_ | refine BrG.neg (by decide) ?_) | refine Chk.mk (ptr_ok tblOk rfl rfl) ?_ | refine Chk.mk (by decide) ?_ | refine hS.ld rfl ?_ | refine hS.ldn rfl ?_ | (refine hS.st rfl rfl ?_; intro _ hS))
  refine ⟨_, PackW.mk a' c' L' hv', ?_⟩
  rw [show (((bs ++ xs).length : Nat) : Int) = (bs.length : Int) + (xs.length : Int) by rw [hl]; omega]
  exact hS

def u64V (n : Nat) : Value := .int .u64 n
theorem or128 (m : Nat) : orI .u8 (IntKind.u8.wrap (m : Int)) 128 = (((UInt8.ofNat (m % 128 + 128)).toNat : Nat) : Int) := by
  have e1 : IntKind.u8.wrap (m : Int) = ((m % 256 : Nat) : Int) := wrapU .u8 rfl m
  rw [e1]
  have h := Nat.mod_lt m (show 0 < 256 by omega)
  have e2 : m % 128 = m % 256 % 128 := by omega
  rw [e2]
  generalize m % 256 = r at h
  have key : ∀ r : Fin 256, orI .u8 ((r.val : Nat) : Int) 128 = (((UInt8.ofNat (r.val % 128 + 128)).toNat : Nat) : Int) := by decide +kernel
  exact key ⟨r, h⟩
theorem numbs_succ (ns : List Nat) (k : Nat) (hk : k < ns.length) : ((ns.take (k + 1)).map numB).flatten = ((ns.take k).map numB).flatten ++ numB ns[k] := by
  rw [List.take_succ_eq_append_getElem hk, List.map_append, List.flatten_append, List.map_cons, List.map_nil, List.flatten_cons, List.flatten_nil, List.append_nil]
theorem numB_len10 (n : Nat) (h : n < 18446744073709551616) : (numB n).length ≤ 10 := numB_len 9 n (Nat.lt_of_lt_of_le h (by decide))
theorem numbs_len (ns : List Nat) (h : ∀ n ∈ ns, n < 18446744073709551616) : ((ns.map numB).flatten).length ≤ 10 * ns.length := by
  induction ns with
  | nil => simp
  | cons n r ih =>
    have h1 := numB_len10 n (h n (by simp))
    have h2 := ih (fun m hm => h m (List.mem_cons_of_mem _ hm))
    simp only [List.map_cons, List.flatten_cons, List.length_append, List.length_cons]; omega
theorem byteV_ofNat (m : Nat) (h : m < 256) : byteV (UInt8.ofNat m) = .int .u8 (m : Int) := by
  have : (UInt8.ofNat m).toNat = m := by simp; omega
  unfold byteV; rw [this]

set_option maxHeartbeats 1000000 in
theorem Num_spec {w : World} {b : Nat} {bs : Bytes} {L : Heap} (hW : PackW b bs L) (hh : Holds L w) {a : Option Addr} {cap : Nat} {ns : List Nat} (ha : Arr w (keys L) a (ns.map u64V)) (hn : ∀ n ∈ ns, n < 18446744073709551616) (_hl : ns.length ≤ 1099511627776) (hlen : bs.length + 10 * ns.length ≤ 140737488355328) :
    Cl Tryd.prog f_pack_Writer_Num [ptr b, .slice a ns.length cap] w fun _ w' => ∃ L', PackW b (bs ++ (ns.map numB).flatten) L' ∧ St w (keys L) L' w' := by
  have hS := St.enter hh
  generalize hT : keys L = T0 at hS ha ⊢
  refine en_pack_Writer_Num rfl ?_
  repeat (first | refine SemW.run tblOk ?_ | refine IntG.nw (by omega) ?_ | refine IntG.nu8 (by omega) ?_ | refine IntG.nu32 (by omega) ?_ | refine IntG.nu64 (by omega) ?_ | refine IntG.wr' rfl ?_ | refine Chk.mk (by omega) ?_ | (refine BrG.id ?_; first | with_reducible refine BrG.t ?_ | with_reducible refine BrG.f ?_ | with_reducible refine BrG.notG ?_ | with_reducible refine BrG.nn ?_ | with_reducible refine BrG.ns ?_ | refine BrG.pos (by omega) ?_ | refine BrG.neg (by omega) ?_ | with_reducible refine BrG.pos rfl ?_ | refine BrG.pos (by assumption) ?_ | refine BrG.neg (by assumption) ?_ | refine BrG.pos (by decide) ?_ | refine BrG.neg (by decide) ?_) | refine Chk.mk (ptr_ok tblOk rfl rfl) ?_ | refine Chk.mk (by decide) ?_)
  refine SemW.loop (fun k : Nat => [(0, ptr b), (6, .slice a ns.length cap), (7, .int .i64 ns.length), (8, .int .i64 k)])
    (fun k w' => k ≤ ns.length ∧ ∃ L', PackW b (bs ++ ((ns.take k).map numB).flatten) L' ∧ St w T0 L' w') (fun k => ns.length - k) 0
    ⟨rfl, rfl, rfl, rfl, trivial⟩ ⟨Nat.zero_le _, L, by simpa using hW, hS⟩ ?_
  rintro k w1 ⟨hk, L1, hW1, hS⟩
  by_cases hkl : k < ns.length
  · obtain ⟨b', off', rfl, hbT, hck⟩ := ha.get (j := k) (by simp; omega)
    simp only [List.getElem_map] at hck
    have hs := numbs_succ ns k hkl
    have hnk := hn ns[k] (List.getElem_mem hkl)
    have hln := numbs_len (ns.take k) (fun n h => hn n (List.mem_of_mem_take h))
    have hlt : (ns.take k).length = k := by simp; omega
    have h10 := numB_len10 _ hnk
    repeat (first | refine SemW.run tblOk ?_ | refine IntG.nw (by omega) ?_ | refine IntG.nu8 (by omega) ?_ | refine IntG.nu32 (by omega) ?_ | refine IntG.nu64 (by omega) ?_ | refine IntG.wr' rfl ?_ | refine Chk.mk (by omega) ?_ | (refine BrG.id ?_; first | with_reducible refine BrG.t ?_ | with_reducible refine BrG.f ?_ | with_reducible refine BrG.notG ?_ | with_reducible refine BrG.nn ?_ | with_reducible refine BrG.ns ?_ | refine BrG.pos (by omega) ?_ | refine BrG.neg (by omega) ?_ | with_reducible refine BrG.pos rfl ?_ | refine BrG.pos (by assumption) ?_ | refine BrG.neg (by assumption) ?_ | refine BrG.pos (by decide) ?_ | refine BrG.neg (by decide) ?_) | refine Chk.mk (ptr_ok tblOk rfl rfl) ?_ | refine Chk.mk (by decide) ?_)
    refine hS.ldOld hbT (by simpa using hck) ?_
    repeat (first | refine SemW.run tblOk ?_ | refine IntG.nw (by omega) ?_ | refine IntG.nu8 (by omega) ?_ | refine IntG.nu32 (by omega) ?_ | refine IntG.nu64 (by omega) ?_ | refine IntG.wr' rfl ?_ | refine Chk.mk (by omega) ?_ | (refine BrG.id ?_; first | with_reducible refine BrG.t ?_ | with_reducible refine BrG.f ?_ | with_reducible refine BrG.notG ?_ | with_reducible refine BrG.nn ?_ | with_reducible refine BrG.ns ?_ | refine BrG.pos (by omega) ?_ | refine BrG.neg (by omega) ?_ | with_reducible refine BrG.pos rfl ?_ | refine BrG.pos (by assumption) ?_ | refine BrG.neg (by assumption) ?_ | refine BrG.pos (by decide) ?_ | refine BrG.neg (by decide) ?_) | refine Chk.mk (ptr_ok tblOk rfl rfl) ?_ | refine Chk.mk (by decide) ?_)
    refine SemW.loop (fun x : Nat × Bytes => [(0, ptr b), (5, u64V x.1), (6, .slice (some ⟨b', off', none⟩) ns.length cap), (7, .int .i64 ns.length), (8, .int .i64 k)])
      (fun x w' => x.2 ++ numB x.1 = numB ns[k] ∧ ∃ L', PackW b (bs ++ ((ns.take k).map numB).flatten ++ x.2) L' ∧ St w T0 L' w') (fun x => x.1) (ns[k], [])
      ⟨rfl, rfl, rfl, rfl, rfl, trivial⟩ ⟨rfl, L1, by simpa using hW1, hS⟩ ?_
    rintro ⟨m, p⟩ w2 ⟨hp, L2, hW2, hS⟩
    simp only at hp hW2 ⊢
    have hpl := congrArg List.length hp
    rw [List.length_append] at hpl
    have hpos := numB_pos m
    by_cases hm : m < 128
    · rw [numB_lt hm] at hp
      repeat (first | refine SemW.run tblOk ?_ | refine IntG.nw (by omega) ?_ | refine IntG.nu8 (by omega) ?_ | refine IntG.nu32 (by omega) ?_ | refine IntG.nu64 (by omega) ?_ | refine IntG.wr' rfl ?_ | refine Chk.mk (by omega) ?_ | (refine BrG.id ?_; first | with_reducible refine BrG.t ?_ | with_reducible refine BrG.f ?_ | with_reducible refine BrG.notG ?_ | with_reducible refine BrG.nn ?_ | with_reducible refine BrG.ns ?_ | refine BrG.pos (by omega) ?_ | refine BrG.neg (by omega) ?_ | with_reducible refine BrG.pos rfl ?_ | refine BrG.pos (by assumption) ?_ | refine BrG.neg (by assumption) ?_ | refine BrG.pos (by decide) ?_ | refine BrG.neg (by decide) ?_) | refine Chk.mk (ptr_ok tblOk rfl rfl) ?_ | refine Chk.mk (by decide) ?_)
      refine hS.al ?_
      intro r w3 _ hS
      repeat (first | refine SemW.run tblOk ?_ | refine IntG.nw (by omega) ?_ | refine IntG.nu8 (by omega) ?_ | refine IntG.nu32 (by omega) ?_ | refine IntG.nu64 (by omega) ?_ | refine IntG.wr' rfl ?_ | refine Chk.mk (by omega) ?_ | (refine BrG.id ?_; first | with_reducible refine BrG.t ?_ | with_reducible refine BrG.f ?_ | with_reducible refine BrG.notG ?_ | with_reducible refine BrG.nn ?_ | with_reducible refine BrG.ns ?_ | refine BrG.pos (by omega) ?_ | refine BrG.neg (by omega) ?_ | with_reducible refine BrG.pos rfl ?_ | refine BrG.pos (by assumption) ?_ | refine BrG.neg (by assumption) ?_ | refine BrG.pos (by decide) ?_ | refine BrG.neg (by decide) ?_) | refine Chk.mk (ptr_ok tblOk rfl rfl) ?_ | refine Chk.mk (by decide) ?_)
      refine Cl.mono (add_spec hW2 (hS.part (L := L2)) (xs := [UInt8.ofNat m]) (by rw [List.map_cons, byteV_ofNat m (by omega)]; exact hS.arr (b := r) (nodup_new hS)) (by rw [List.length_append, List.length_append, List.length_singleton]; omega)) ?_
      rintro _ w4 ⟨L3, hW3, hS'⟩
      have hS := (hS.call (L := L2) hS').sub (List.sublist_cons_self _ _)
      repeat (first | refine SemW.run tblOk ?_ | refine IntG.nw (by omega) ?_ | refine IntG.nu8 (by omega) ?_ | refine IntG.nu32 (by omega) ?_ | refine IntG.nu64 (by omega) ?_ | refine IntG.wr' rfl ?_ | refine Chk.mk (by omega) ?_ | (refine BrG.id ?_; first | with_reducible refine BrG.t ?_ | with_reducible refine BrG.f ?_ | with_reducible refine BrG.notG ?_ | with_reducible refine BrG.nn ?_ | with_reducible refine BrG.ns ?_ | refine BrG.pos (by omega) ?_ | refine BrG.neg (by omega) ?_ | with_reducible refine BrG.pos rfl ?_ | refine BrG.pos (by assumption) ?_ | refine BrG.neg (by assumption) ?_ | refine BrG.pos (by decide) ?_ | refine BrG.neg (by decide) ?_) | refine Chk.mk (ptr_ok tblOk rfl rfl) ?_ | refine Chk.mk (by decide) ?_)
      refine ⟨k + 1, ⟨rfl, rfl, rfl, rfl, trivial⟩, ⟨by omega, L3, ?_, hS⟩, by omega⟩
      rw [hs, ← hp, ← List.append_assoc, ← List.append_assoc]
      exact hW3
    · rw [numB_ge hm] at hp
      have hpos2 := numB_pos (m / 128)
      rw [numB_ge hm, List.length_cons] at hpl
      repeat (first | refine SemW.run tblOk ?_ | refine IntG.nw (by omega) ?_ | refine IntG.nu8 (by omega) ?_ | refine IntG.nu32 (by omega) ?_ | refine IntG.nu64 (by omega) ?_ | refine IntG.wr' rfl ?_ | refine Chk.mk (by omega) ?_ | (refine BrG.id ?_; first | with_reducible refine BrG.t ?_ | with_reducible refine BrG.f ?_ | with_reducible refine BrG.notG ?_ | with_reducible refine BrG.nn ?_ | with_reducible refine BrG.ns ?_ | refine BrG.pos (by omega) ?_ | refine BrG.neg (by omega) ?_ | with_reducible refine BrG.pos rfl ?_ | refine BrG.pos (by assumption) ?_ | refine BrG.neg (by assumption) ?_ | refine BrG.pos (by decide) ?_ | refine BrG.neg (by decide) ?_) | refine Chk.mk (ptr_ok tblOk rfl rfl) ?_ | refine Chk.mk (by decide) ?_)
      refine hS.al ?_
      intro r w3 _ hS
      repeat (first | refine SemW.run tblOk ?_ | refine IntG.nw (by omega) ?_ | refine IntG.nu8 (by omega) ?_ | refine IntG.nu32 (by omega) ?_ | refine IntG.nu64 (by omega) ?_ | refine IntG.wr' rfl ?_ | refine Chk.mk (by omega) ?_ | (refine BrG.id ?_; first | with_reducible refine BrG.t ?_ | with_reducible refine BrG.f ?_ | with_reducible refine BrG.notG ?_ | with_reducible refine BrG.nn ?_ | with_reducible refine BrG.ns ?_ | refine BrG.pos (by omega) ?_ | refine BrG.neg (by omega) ?_ | with_reducible refine BrG.pos rfl ?_ | refine BrG.pos (by assumption) ?_ | refine BrG.neg (by assumption) ?_ | refine BrG.pos (by decide) ?_ | refine BrG.neg (by decide) ?_) | refine Chk.mk (ptr_ok tblOk rfl rfl) ?_ | refine Chk.mk (by decide) ?_)
      refine Cl.mono (add_spec hW2 (hS.part (L := L2)) (xs := [UInt8.ofNat (m % 128 + 128)]) (by have := hS.arr (b := r) (nodup_new hS); rw [or128] at this; exact this) (by rw [List.length_append, List.length_append, List.length_singleton]; omega)) ?_
      rintro _ w4 ⟨L3, hW3, hS'⟩
      have hS := (hS.call (L := L2) hS').sub (List.sublist_cons_self _ _)
      repeat (first | refine SemW.run tblOk ?_ | refine IntG.nw (by omega) ?_ | refine IntG.nu8 (by omega) ?_ | refine IntG.nu32 (by omega) ?_ | refine IntG.nu64 (by omega) ?_ | refine IntG.wr' rfl ?_ | refine Chk.mk (by omega) ?_ | (refine BrG.id ?_; first | with_reducible refine BrG.t ?_ | with_reducible refine BrG.f ?_ | with_reducible refine BrG.notG ?_ | with_reducible refine BrG.nn ?_ | with_reducible refine BrG.ns ?_ | refine BrG.pos (by omega) ?_ | refine BrG.neg (by omega) ?_ | with_reducible refine BrG.pos rfl ?_ | refine BrG.pos (by assumption) ?_ | refine BrG.neg (by assumption) ?_ | refine BrG.pos (by decide) ?_ | refine BrG.neg (by decide) ?_) | refine Chk.mk (ptr_ok tblOk rfl rfl) ?_ | refine Chk.mk (by decide) ?_)
      refine ⟨(m / 128, p ++ [UInt8.ofNat (m % 128 + 128)]), ⟨rfl, ?_, rfl, rfl, rfl, trivial⟩, ⟨by simpa using hp, L3, by rw [← List.append_assoc]; exact hW3, hS⟩, by simp only; omega⟩
      show Value.int .u64 ((m : Int).fdiv (2 ^ 7)) = u64V (m / 128)
      rw [fdivP]; rfl
  · have hke : k = ns.length := by omega
    subst hke
    rw [List.take_length] at hW1
    repeat (first | refine SemW.run tblOk ?_ | refine IntG.nw (by omega) ?_ | refine IntG.nu8 (by omega) ?_ | refine IntG.nu32 (by omega) ?_ | refine IntG.nu64 (by omega) ?_ | refine IntG.wr' rfl ?_ | refine Chk.mk (by omega) ?_ | (refine BrG.id ?_; first | with_reducible refine BrG.t ?_ | with_reducible refine BrG.f ?_ | with_reducible refine BrG.notG ?_ | with_reducible refine BrG.nn ?_ | with_reducible refine BrG.ns ?_ | refine BrG.pos (by omega) ?_ | refine BrG.neg (by omega) ?_ | with_reducible refine BrG.pos rfl ?_ | refine BrG.pos (by assumption) ?_ | refine BrG.neg (by assumption) ?_ | refine BrG.pos (by decide) ?_ | refine BrG.neg (by decide) ?_) | refine Chk.mk (ptr_ok tblOk rfl rfl) ?_ | refine Chk.mk (by decide) ?_)
    exact ⟨L1, hW1, hS⟩

/-- A whole number's fold, as the machine does it. -/
theorem zig_eq (z : Int) (h1 : -9223372036854775808 ≤ z) (h2 : z ≤ 9223372036854775807) :
    xorI .u64 (IntKind.u64.wrap (IntKind.u64.wrap z * 2 ^ 1)) (IntKind.u64.wrap (z.fdiv (2 ^ 63))) = (zig z : Int) ∧ zig z < 18446744073709551616 := by
  unfold zig
  by_cases h0 : 0 ≤ z
  · rw [if_pos h0]
    obtain ⟨n, rfl⟩ := Int.eq_ofNat_of_zero_le h0
    have e0 : ((n : Nat) : Int).toNat = n := Int.toNat_natCast n
    have e1 : IntKind.u64.wrap ((n : Nat) : Int) = (n : Int) := by rw [wrapU .u64 rfl]; congr 1; exact Nat.mod_eq_of_lt (by show n < 18446744073709551616; omega)
    have e2 : IntKind.u64.wrap ((n : Int) * 2 ^ 1) = ((2 * n : Nat) : Int) := by
      rw [show ((n : Nat) : Int) * 2 ^ 1 = ((2 * n : Nat) : Int) by omega, wrapU .u64 rfl]; congr 1; exact Nat.mod_eq_of_lt (by show 2 * n < 18446744073709551616; omega)
    have e3 : ((n : Nat) : Int).fdiv (2 ^ 63) = ((0 : Nat) : Int) := by
      rw [fdivP]; congr 1; exact Nat.div_eq_of_lt (by omega)
    have e4 : IntKind.u64.wrap ((0 : Nat) : Int) = ((0 : Nat) : Int) := by rw [wrapU .u64 rfl]; rfl
    rw [e0, e1, e2, e3, e4, xorU .u64 rfl _ _ (by show 2 * n < 18446744073709551616; omega) (by decide), Nat.xor_zero]
    exact ⟨rfl, by omega⟩
  · rw [if_neg h0]
    obtain ⟨n, hn⟩ : ∃ n : Nat, z = -(n : Int) - 1 := ⟨(-(z + 1)).toNat, by omega⟩
    subst hn
    have hn9 : n < 9223372036854775808 := by omega
    have e0 : (-(-(n : Int) - 1 + 1)).toNat = n := by omega
    have e1 : IntKind.u64.wrap (-(n : Int) - 1) = ((18446744073709551615 - n : Nat) : Int) := by
      unfold IntKind.wrap; simp only [IntKind.signed, IntKind.bits]; simp; omega
    have e2 : IntKind.u64.wrap (((18446744073709551615 - n : Nat) : Int) * 2 ^ 1) = ((18446744073709551614 - 2 * n : Nat) : Int) := by
      rw [show ((18446744073709551615 - n : Nat) : Int) * 2 ^ 1 = ((2 * (18446744073709551615 - n) : Nat) : Int) by omega, wrapU .u64 rfl]; congr 1
      show 2 * (18446744073709551615 - n) % 18446744073709551616 = _; omega
    have e3 : (-(n : Int) - 1).fdiv (2 ^ 63) = -1 := by
      rw [Int.fdiv_eq_ediv_of_nonneg _ (by decide)]; omega
    have e4 : IntKind.u64.wrap (-1) = ((18446744073709551615 : Nat) : Int) := by decide
    rw [e0, e1, e2, e3, e4, xorU .u64 rfl _ _ (by show _ < 18446744073709551616; omega) (by decide)]
    have e5 : (18446744073709551614 - 2 * n) ^^^ 18446744073709551615 = 2 * n + 1 := by
      have h1 : (BitVec.ofNat 64 (18446744073709551614 - 2 * n) ^^^ BitVec.allOnes 64).toNat = (18446744073709551614 - 2 * n) ^^^ 18446744073709551615 := by
        rw [BitVec.toNat_xor, BitVec.toNat_allOnes, BitVec.toNat_ofNat, Nat.mod_eq_of_lt (by omega)]
      rw [← h1, BitVec.xor_allOnes, BitVec.toNat_not, BitVec.toNat_ofNat, Nat.mod_eq_of_lt (by omega)]; omega
    rw [e5]
    exact ⟨rfl, by omega⟩
theorem ints_succ (zs : List Int) (k : Nat) (hk : k < zs.length) : intsB (zs.take (k + 1)) = intsB (zs.take k) ++ intB zs[k] := by
  unfold intsB
  rw [List.take_succ_eq_append_getElem hk, List.map_append, List.flatten_append, List.map_cons, List.map_nil, List.flatten_cons, List.flatten_nil, List.append_nil]
def i64ok (z : Int) : Prop := -9223372036854775808 ≤ z ∧ z ≤ 9223372036854775807
theorem ints_len (zs : List Int) (h : ∀ z ∈ zs, i64ok z) : (intsB zs).length ≤ 10 * zs.length := by
  induction zs with
  | nil => simp [intsB]
  | cons z r ih =>
    have h1 := numB_len10 (zig z) (zig_eq z (h z (by simp)).1 (h z (by simp)).2).2
    have h2 := ih (fun m hm => h m (List.mem_cons_of_mem _ hm))
    simp only [intsB, List.map_cons, List.flatten_cons, List.length_append, List.length_cons, intB] at h2 ⊢; omega
set_option maxHeartbeats 1000000 in
theorem Int_spec {w : World} {b : Nat} {bs : Bytes} {L : Heap} (hW : PackW b bs L) (hh : Holds L w) {a : Option Addr} {cap : Nat} {zs : List Int} (ha : Arr w (keys L) a (zs.map intV)) (hn : ∀ z ∈ zs, i64ok z) (_hl : zs.length ≤ 1099511627776) (hlen : bs.length + 10 * zs.length ≤ 140737488355328) :
    Cl Tryd.prog f_pack_Writer_Int [ptr b, .slice a zs.length cap] w fun _ w' => ∃ L', PackW b (bs ++ intsB zs) L' ∧ St w (keys L) L' w' := by
  have hS := St.enter hh
  generalize hT : keys L = T0 at hS ha ⊢
  refine en_pack_Writer_Int rfl ?_
  repeat (first | refine SemW.run tblOk ?_ | refine IntG.nw (by omega) ?_ | refine IntG.nu8 (by omega) ?_ | refine IntG.nu32 (by omega) ?_ | refine IntG.nu64 (by omega) ?_ | refine IntG.wr' rfl ?_ | refine Chk.mk (by omega) ?_ | (refine BrG.id ?_; first | with_reducible refine BrG.t ?_ | with_reducible refine BrG.f ?_ | with_reducible refine BrG.notG ?_ | with_reducible refine BrG.nn ?_ | with_reducible refine BrG.ns ?_ | refine BrG.pos (by omega) ?_ | refine BrG.neg (by omega) ?_ | with_reducible refine BrG.pos rfl ?_ | refine BrG.pos (by assumption) ?_ | refine BrG.neg (by assumption) ?_ | refine BrG.pos (by decide) ?_ | refine BrG.neg (by decide) ?_) | refine Chk.mk (ptr_ok tblOk rfl rfl) ?_ | refine Chk.mk (by decide) ?_)
  refine SemW.loop (fun k : Nat => [(0, ptr b), (6, .slice a zs.length cap), (7, .int .i64 zs.length), (8, .int .i64 k)])
    (fun k w' => k ≤ zs.length ∧ ∃ L', PackW b (bs ++ intsB (zs.take k)) L' ∧ St w T0 L' w') (fun k => zs.length - k) 0
    ⟨rfl, rfl, rfl, rfl, trivial⟩ ⟨Nat.zero_le _, L, by simpa [intsB] using hW, hS⟩ ?_
  rintro k w1 ⟨hk, L1, hW1, hS⟩
  by_cases hkl : k < zs.length
  · obtain ⟨b', off', rfl, hbT, hck⟩ := ha.get (j := k) (by simp; omega)
    simp only [List.getElem_map] at hck
    have hs := ints_succ zs k hkl
    obtain ⟨hr1, hr2⟩ := hn zs[k] (List.getElem_mem hkl)
    obtain ⟨hz1, hz2⟩ := zig_eq zs[k] hr1 hr2
    have hln := ints_len (zs.take k) (fun n h => hn n (List.mem_of_mem_take h))
    have hlt : (zs.take k).length = k := by simp; omega
    repeat (first | refine SemW.run tblOk ?_ | refine IntG.nw (by omega) ?_ | refine IntG.nu8 (by omega) ?_ | refine IntG.nu32 (by omega) ?_ | refine IntG.nu64 (by omega) ?_ | refine IntG.wr' rfl ?_ | refine Chk.mk (by omega) ?_ | (refine BrG.id ?_; first | with_reducible refine BrG.t ?_ | with_reducible refine BrG.f ?_ | with_reducible refine BrG.notG ?_ | with_reducible refine BrG.nn ?_ | with_reducible refine BrG.ns ?_ | refine BrG.pos (by omega) ?_ | refine BrG.neg (by omega) ?_ | with_reducible refine BrG.pos rfl ?_ | refine BrG.pos (by assumption) ?_ | refine BrG.neg (by assumption) ?_ | refine BrG.pos (by decide) ?_ | refine BrG.neg (by decide) ?_) | refine Chk.mk (ptr_ok tblOk rfl rfl) ?_ | refine Chk.mk (by decide) ?_)
    refine hS.ldOld hbT (by simpa using hck) ?_
    repeat (first | refine SemW.run tblOk ?_ | refine IntG.nw (by omega) ?_ | refine IntG.nu8 (by omega) ?_ | refine IntG.nu32 (by omega) ?_ | refine IntG.nu64 (by omega) ?_ | refine IntG.wr' rfl ?_ | refine Chk.mk (by omega) ?_ | (refine BrG.id ?_; first | with_reducible refine BrG.t ?_ | with_reducible refine BrG.f ?_ | with_reducible refine BrG.notG ?_ | with_reducible refine BrG.nn ?_ | with_reducible refine BrG.ns ?_ | refine BrG.pos (by omega) ?_ | refine BrG.neg (by omega) ?_ | with_reducible refine BrG.pos rfl ?_ | refine BrG.pos (by assumption) ?_ | refine BrG.neg (by assumption) ?_ | refine BrG.pos (by decide) ?_ | refine BrG.neg (by decide) ?_) | refine Chk.mk (ptr_ok tblOk rfl rfl) ?_ | refine Chk.mk (by decide) ?_)
    refine hS.al ?_
    intro r w3 _ hS
    repeat (first | refine SemW.run tblOk ?_ | refine IntG.nw (by omega) ?_ | refine IntG.nu8 (by omega) ?_ | refine IntG.nu32 (by omega) ?_ | refine IntG.nu64 (by omega) ?_ | refine IntG.wr' rfl ?_ | refine Chk.mk (by omega) ?_ | (refine BrG.id ?_; first | with_reducible refine BrG.t ?_ | with_reducible refine BrG.f ?_ | with_reducible refine BrG.notG ?_ | with_reducible refine BrG.nn ?_ | with_reducible refine BrG.ns ?_ | refine BrG.pos (by omega) ?_ | refine BrG.neg (by omega) ?_ | with_reducible refine BrG.pos rfl ?_ | refine BrG.pos (by assumption) ?_ | refine BrG.neg (by assumption) ?_ | refine BrG.pos (by decide) ?_ | refine BrG.neg (by decide) ?_) | refine Chk.mk (ptr_ok tblOk rfl rfl) ?_ | refine Chk.mk (by decide) ?_)
    refine Cl.mono (Num_spec hW1 (hS.part (L := L1)) (ns := [zig zs[k]]) (by have := hS.arr (b := r) (nodup_new hS); rw [show min (Int.toNat 1) IntKind.u64.bits = 1 from rfl, show min (Int.toNat 63) IntKind.i64.bits = 63 from rfl, hz1] at this; exact this) (by simpa using hz2) (by simp) (by rw [List.length_append, List.length_singleton]; omega)) ?_
    rintro _ w4 ⟨L3, hW3, hS'⟩
    have hS := (hS.call (L := L1) hS').sub (List.sublist_cons_self _ _)
    repeat (first | refine SemW.run tblOk ?_ | refine IntG.nw (by omega) ?_ | refine IntG.nu8 (by omega) ?_ | refine IntG.nu32 (by omega) ?_ | refine IntG.nu64 (by omega) ?_ | refine IntG.wr' rfl ?_ | refine Chk.mk (by omega) ?_ | (refine BrG.id ?_; first | with_reducible refine BrG.t ?_ | with_reducible refine BrG.f ?_ | with_reducible refine BrG.notG ?_ | with_reducible refine BrG.nn ?_ | with_reducible refine BrG.ns ?_ | refine BrG.pos (by omega) ?_ | refine BrG.neg (by omega) ?_ | with_reducible refine BrG.pos rfl ?_ | refine BrG.pos (by assumption) ?_ | refine BrG.neg (by assumption) ?_ | refine BrG.pos (by decide) ?_ | refine BrG.neg (by decide) ?_) | refine Chk.mk (ptr_ok tblOk rfl rfl) ?_ | refine Chk.mk (by decide) ?_)
    refine ⟨k + 1, ⟨rfl, rfl, rfl, rfl, trivial⟩, ⟨by omega, L3, ?_, hS⟩, by omega⟩
    rw [hs, ← List.append_assoc]
    simpa [intB] using hW3
  · have hke : k = zs.length := by omega
    subst hke
    rw [List.take_length] at hW1
    repeat (first | refine SemW.run tblOk ?_ | refine IntG.nw (by omega) ?_ | refine IntG.nu8 (by omega) ?_ | refine IntG.nu32 (by omega) ?_ | refine IntG.nu64 (by omega) ?_ | refine IntG.wr' rfl ?_ | refine Chk.mk (by omega) ?_ | (refine BrG.id ?_; first | with_reducible refine BrG.t ?_ | with_reducible refine BrG.f ?_ | with_reducible refine BrG.notG ?_ | with_reducible refine BrG.nn ?_ | with_reducible refine BrG.ns ?_ | refine BrG.pos (by omega) ?_ | refine BrG.neg (by omega) ?_ | with_reducible refine BrG.pos rfl ?_ | refine BrG.pos (by assumption) ?_ | refine BrG.neg (by assumption) ?_ | refine BrG.pos (by decide) ?_ | refine BrG.neg (by decide) ?_) | refine Chk.mk (ptr_ok tblOk rfl rfl) ?_ | refine Chk.mk (by decide) ?_)
    exact ⟨L1, hW1, hS⟩

theorem Bytes_spec {w : World} {b : Nat} {bs : Bytes} {L : Heap} (hW : PackW b bs L) (hh : Holds L w) : Cl Tryd.prog f_pack_Writer_Bytes [ptr b] w fun v w' => v = Str bs ∧ St w (keys L) L w' := by
  have hS := St.enter hh
  generalize hT : keys L = T0 at hS ⊢
  obtain ⟨a0, c0, L0, hv⟩ := hW
  refine en_pack_Writer_Bytes rfl ?_
  repeat (first | refine SemW.run tblOk ?_ | refine IntG.nw (by omega) ?_ | refine IntG.nu8 (by omega) ?_ | refine IntG.nu32 (by omega) ?_ | refine IntG.nu64 (by omega) ?_ | refine IntG.wr' rfl ?_ | refine Chk.mk (by omega) ?_ | (refine BrG.id ?_; first | with_reducible refine BrG.t ?_ | with_reducible refine BrG.f ?_ | with_reducible refine BrG.notG ?_ | with_reducible refine BrG.nn ?_ | with_reducible refine BrG.ns ?_ | refine BrG.pos (by omega) ?_ | refine BrG.neg (by omega) ?_ | with_reducible refine BrG.pos rfl ?_ | refine BrG.pos (by assumption) ?_ | refine BrG.neg (by assumption) ?_ | refine BrG.pos (by decide) ?_ | refine BrG.neg (by decide) ?_) | refine Chk.mk (ptr_ok tblOk rfl rfl) ?_ | refine Chk.mk (by decide) ?_ | refine hS.ld rfl ?_ | refine hS.ldn rfl ?_ | (refine hS.st rfl rfl ?_; intro _ hS))
  refine toStr (T := []) tblOk rfl rfl rfl rfl rfl rfl (bs := bs) rfl (fun w' hw' => by subst hw'; exact hv.arr hS (by simp)) ?_
  repeat (first | refine SemW.run tblOk ?_ | refine IntG.nw (by omega) ?_ | refine IntG.nu8 (by omega) ?_ | refine IntG.nu32 (by omega) ?_ | refine IntG.nu64 (by omega) ?_ | refine IntG.wr' rfl ?_ | refine Chk.mk (by omega) ?_ | (refine BrG.id ?_; first | with_reducible refine BrG.t ?_ | with_reducible refine BrG.f ?_ | with_reducible refine BrG.notG ?_ | with_reducible refine BrG.nn ?_ | with_reducible refine BrG.ns ?_ | refine BrG.pos (by omega) ?_ | refine BrG.neg (by omega) ?_ | with_reducible refine BrG.pos rfl ?_ | refine BrG.pos (by assumption) ?_ | refine BrG.neg (by assumption) ?_ | refine BrG.pos (by decide) ?_ | refine BrG.neg (by decide) ?_) | refine Chk.mk (ptr_ok tblOk rfl rfl) ?_ | refine Chk.mk (by decide) ?_)
  exact ⟨rfl, hS⟩
end Go.Proofs.YtklppplnkpnbhaaDoor
