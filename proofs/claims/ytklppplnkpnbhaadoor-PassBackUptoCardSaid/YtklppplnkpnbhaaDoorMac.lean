/- Package tag: Mac. -/
import Derived.Test.YtklppplnkpnbhaaDoorDrawC
import Derived.Test.YtklppplnkpnbhaaDoorTagEnd
import Derived.Laws.MakeOwn
namespace Go.Proofs.YtklppplnkpnbhaaDoor
open Go Go.Eng Go.Proofs

theorem key64_len (key : Bytes) : (key64 key).length = 64 := by
  unfold key64
  split
  · simp [shaB_len]
  · simp; omega
/-- make([]byte, 64). -/
theorem mk64 {w0 w : World} {T : List Nat} {H : Heap} (hS : St w0 T H w) {K : Value → World → Prop}
    (h : ∀ b w', St w0 T ((b, .cells ⟨(List.replicate 64 (0 : UInt8)).map byteV⟩ T_uint8 (0, 0)) :: H) w' → K (.slice (some ⟨b, 0, none⟩) 64 64) w') :
    RunG Tryd.prog (Instr.makeSlice T_Sl_uint8 (.int .i64 64) (.int .i64 64)) w K := by
  obtain ⟨inf, hinf, hzz, hs1, hby⟩ := info_of tblOk (t := T_uint8) rfl
  have hs2 : inf.size = 1 := hs1
  have hb2 : inf.bytes = 1 := hby
  have ht := (und_of tblOk (t := T_Sl_uint8) rfl).1
  have hr := run_makeSlice w T_Sl_uint8 T_uint8 inf (.int .u8 0) ht hinf hzz .i64 .i64 64 64 (by omega) (by omega) (by rw [hs2]; decide) (by rw [hb2]; decide) (by decide)
  rw [hs2] at hr
  have e1 : madeCells (Value.int IntKind.u8 0).cells ((64 : Int).toNat * 1) = ⟨(List.replicate 64 (0 : UInt8)).map byteV⟩ := by
    kernel_rfl
  rw [e1] at hr
  exact RunG.of hr (h _ _ (hS.alloc _))
/-- copy into an own block, from a string. -/
theorem St.copyStr {P : Program} {T0 : Tbl} (hT : TOk P T0) {t u e ty : TypeId} {i : TI} (hi : tf T0 t = some i) (hk : i.k = .slice e 1) {w0 w : World} {T : List Nat} {H : Heap} {g n cap : Nat} {l s : Bytes} {et : TypeId} {F : Obj → Heap} (hS : St w0 T H w) [hs : Slot H g (.cells ⟨l.map byteV⟩ et (0, 0)) F]
    (hn : s.length ≤ n) (hl : s.length ≤ l.length) {K : Value → World → Prop}
    (h : ∀ w', St w0 T (F (.cells ⟨(s ++ l.drop s.length).map byteV⟩ et (0, 0))) w' → K (.int .i64 s.length) w') :
    RunG P (Builtin.copy_ ⟨[t, u]⟩ ty ⟨[.slice (some ⟨g, 0, none⟩) n cap, Str s]⟩) w K := by
  have ht := und_of hT hi; rw [hk] at ht
  obtain ⟨ht1, ht2⟩ := ht
  have hmem := hS.mem (b := g)
  have hst := run_storeCells_at P g 0 et (s.map byteV) 0 ⟨l.map byteV⟩ w hmem (by simpa using hl) (fun v hv => by
    obtain ⟨c, -, rfl⟩ := List.mem_map.1 hv; rfl)
  have e1 : (List.take 0 (l.map byteV) ++ s.map byteV ++ List.drop (0 + 0 + (s.map byteV).length) (l.map byteV)) = (s ++ l.drop s.length).map byteV := by simp
  have hmin : Nat.min s.length n = s.length := Nat.min_eq_left hn
  have htk : List.take s.length (List.map (fun b : UInt8 => Value.int IntKind.u8 (b.toNat : Int)) s) = s.map byteV := by
    rw [List.take_of_length_le (by rw [List.length_map]; exact Nat.le_refl _)]
    rfl
  have hsz : (ByteArray.mk (Array.mk s)).size = s.length := rfl
  refine RunG.of ?_ (h _ (hS.setRow (b := g) (l := l.map byteV)))
  cases hq : P.info? e with
  | none => rw [hq] at ht2; simp at ht2
  | some i =>
    have hz : i.size = 1 := by rw [hq] at ht2; simpa using ht2
    simp [Builtin.copy_, run_underlying ht1, Builtin.lenOf, Builtin.firstCells, sizeOf, typeInfo, hq, hmin, hsz]
    rw [htk, hst]
    simp [Result.andThen, goInt]


end Go.Proofs.YtklppplnkpnbhaaDoor
namespace Go.Eng
open Go
theorem vcE_step {P : Program} {T : Tbl} {N : Nat} {all : List Oper} {n : Nat} {listed : Array Bool} {e : Env} {w : World} {K : Env → World → Prop} (j : Nat) (js : List Nat) (h : Region.ready .any ⟨all⟩ listed = j :: js)
    (g : allP (j :: js) fun i => atK all i fun o => grdG all o.guard e
      (fun e => stepG P T N e o w fun e' w' => vcE P T N all n (listed.setIfInBounds i true) e' w' K)
      (fun e => putE N o.dst undef e fun e' => vcE P T N all n (listed.setIfInBounds i true) e' w K)) : vcE P T N all (n + 1) listed e w K := by
  simp only [vcE, h]; exact g
theorem vcE_done {P : Program} {T : Tbl} {N : Nat} {all : List Oper} {n : Nat} {listed : Array Bool} {e : Env} {w : World} {K : Env → World → Prop} (h : Region.ready .any ⟨all⟩ listed = []) (hk : K e w) : vcE P T N all n listed e w K := by
  cases n <;> simp only [vcE, h] <;> exact hk
end Go.Eng
namespace Go.Proofs.YtklppplnkpnbhaaDoor
open Go Go.Eng Go.Proofs
/-- The first k bytes changed. -/
def xorTo (c : UInt8) (K : Bytes) (k : Nat) : Bytes := (K.take k).map (fun b => b ^^^ c) ++ K.drop k
theorem xorTo_len (c : UInt8) (K : Bytes) (k : Nat) : (xorTo c K k).length = K.length := by simp [xorTo]; omega
theorem xorTo_get (c : UInt8) (K : Bytes) (k : Nat) (hk : k < K.length) : ((xorTo c K k).map byteV)[k]? = some (byteV K[k]) := by
  unfold xorTo
  rw [List.getElem?_map, List.getElem?_append_right (by simp; omega)]
  simp [show min k K.length = k by omega, List.getElem?_eq_getElem hk]
theorem xorTo_set (c : UInt8) (K : Bytes) (k : Nat) (hk : k < K.length) : ((xorTo c K k).map byteV).set k (byteV (K[k] ^^^ c)) = (xorTo c K (k + 1)).map byteV := by
  unfold xorTo
  rw [← List.map_set, List.set_append_right _ _ (by simp; omega)]
  congr 1
  have e0 : k - ((K.take k).map (fun b => b ^^^ c)).length = 0 := by simp; omega
  rw [e0, List.take_succ_eq_append_getElem hk, List.drop_eq_getElem_cons hk]
  simp only [List.set_cons_zero, List.map_append, List.map_cons, List.map_nil, List.append_assoc, List.cons_append, List.nil_append]
theorem xor8 (b : UInt8) (c : Nat) (hc : c < 256) : xorI .u8 (b.toNat : Int) (c : Int) = (((b ^^^ UInt8.ofNat c).toNat : Nat) : Int) := by
  rw [xorU .u8 rfl _ _ b.toNat_lt hc, UInt8.toNat_xor]
  have : (UInt8.ofNat c).toNat = c := by simp; omega
  rw [this]
set_option maxHeartbeats 4000000 in
set_option maxRecDepth 4000 in
theorem Mac_spec {w : World} {key : Bytes} {a : Option Addr} {cap : Nat} {ps : List Bytes} (ha : Arr w [] a (ps.map Str)) (hkl : key.length ≤ 70368744177664) (hl : sumLen ps + 64 ≤ 70368744177664) (hl2 : ps.length + 1 ≤ 1099511627776) :
    Cl Tryd.prog f_tag_Mac [Str key, .slice a ps.length cap] w fun v w' => v = Str (macB key ps.flatten) ∧ St w [] [] w' := by
  have hS := St.start w
  unfold macB
  refine en_tag_Mac rfl ?_
  by_cases h64 : 64 < key.length
  · have hkey : key64 key = shaB key ++ List.replicate (64 - (shaB key).length) 0 := by unfold key64; rw [if_pos h64]
    have hk0 : (shaB key).length ≤ 64 := by rw [shaB_len]; omega
    have hs1 : sumLen [key] = key.length := by simp [sumLen]
    have hf1 : [key].flatten = key := by simp
    repeat (first | refine SemW.run tblOk ?_ | refine IntG.nw (by omega) ?_ | refine IntG.nu8 (by omega) ?_ | refine IntG.nu32 (by omega) ?_ | refine IntG.nu64 (by omega) ?_ | refine IntG.wr' rfl ?_ | refine Chk.mk (by omega) ?_ | (refine BrG.id ?_; first | with_reducible refine BrG.t ?_ | with_reducible refine BrG.f ?_ | with_reducible refine BrG.notG ?_ | with_reducible refine BrG.nn ?_ | with_reducible refine BrG.ns ?_ | refine BrG.pos (by omega) ?_ | refine BrG.neg (by omega) ?_ | with_reducible refine BrG.pos rfl ?_ | refine BrG.pos (by assumption) ?_ | refine BrG.neg (by assumption) ?_ | refine BrG.pos (by decide) ?_ | refine BrG.neg (by decide) ?_) | refine Chk.mk (ptr_ok tblOk rfl rfl) ?_ | refine Chk.mk (by decide) ?_)
    refine hS.al ?_
    intro r w1 _ hS
    repeat (first | refine SemW.run tblOk ?_ | refine IntG.nw (by omega) ?_ | refine IntG.nu8 (by omega) ?_ | refine IntG.nu32 (by omega) ?_ | refine IntG.nu64 (by omega) ?_ | refine IntG.wr' rfl ?_ | refine Chk.mk (by omega) ?_ | (refine BrG.id ?_; first | with_reducible refine BrG.t ?_ | with_reducible refine BrG.f ?_ | with_reducible refine BrG.notG ?_ | with_reducible refine BrG.nn ?_ | with_reducible refine BrG.ns ?_ | refine BrG.pos (by omega) ?_ | refine BrG.neg (by omega) ?_ | with_reducible refine BrG.pos rfl ?_ | refine BrG.pos (by assumption) ?_ | refine BrG.neg (by assumption) ?_ | refine BrG.pos (by decide) ?_ | refine BrG.neg (by decide) ?_) | refine Chk.mk (ptr_ok tblOk rfl rfl) ?_ | refine Chk.mk (by decide) ?_)
    refine Cl.mono (TSum_spec (ps := [key]) (hS.arr (b := r) (by simp)) (by omega) (by simp)) ?_
    rintro _ w1' ⟨rfl, hS'⟩
    have hS := (hS.call0 hS').nil
    rw [hf1]
    obtain ⟨k0, hk0e⟩ : ∃ k0, k0 = shaB key := ⟨_, rfl⟩
    rw [← hk0e] at hkey hk0 ⊢
    repeat (first | refine SemW.run tblOk ?_ | refine IntG.nw (by omega) ?_ | refine IntG.nu8 (by omega) ?_ | refine IntG.nu32 (by omega) ?_ | refine IntG.nu64 (by omega) ?_ | refine IntG.wr' rfl ?_ | refine Chk.mk (by omega) ?_ | (refine BrG.id ?_; first | with_reducible refine BrG.t ?_ | with_reducible refine BrG.f ?_ | with_reducible refine BrG.notG ?_ | with_reducible refine BrG.nn ?_ | with_reducible refine BrG.ns ?_ | refine BrG.pos (by omega) ?_ | refine BrG.neg (by omega) ?_ | with_reducible refine BrG.pos rfl ?_ | refine BrG.pos (by assumption) ?_ | refine BrG.neg (by assumption) ?_ | refine BrG.pos (by decide) ?_ | refine BrG.neg (by decide) ?_) | refine Chk.mk (ptr_ok tblOk rfl rfl) ?_ | refine Chk.mk (by decide) ?_)
    refine StopW.meet (fun x : Nat × Nat => [(0, Str k0), (1, .slice a ps.length cap), (5, .slice (some ⟨x.1, 0, none⟩) 64 64), (6, .slice (some ⟨x.2, 0, none⟩) 64 64)])
      (fun x w' => St w [] ((x.1, .cells ⟨(List.replicate 64 (0 : UInt8)).map byteV⟩ T_uint8 (0, 0)) :: (x.2, .cells ⟨(List.replicate 64 (0 : UInt8)).map byteV⟩ T_uint8 (0, 0)) :: []) w') ?_ ?_
    · refine SemW.drawE tblOk mixed ?_
      have hS := hS.drew
      refine vcE_step 0 [1] (by kernel_rfl) ⟨?_, ?_, trivial⟩
      · refine mk64 hS ?_
        intro bi w2 hS
        refine vcE_step 1 [2] (by kernel_rfl) ⟨?_, ?_, trivial⟩
        · refine mk64 hS ?_
          intro bo w3 hS
          refine vcE_step 2 [] (by kernel_rfl) ⟨?_, trivial⟩
          refine vcE_step 3 [] (by kernel_rfl) ⟨?_, trivial⟩
          refine vcE_done (by kernel_rfl) ?_
          exact ⟨(bi, bo), ⟨rfl, rfl, rfl, rfl, trivial⟩, hS.perm (List.Perm.swap _ _ _)⟩
        · refine vcE_step 1 [] (by kernel_rfl) ⟨?_, trivial⟩
          refine mk64 hS ?_
          intro bo w3 hS
          refine vcE_step 3 [] (by kernel_rfl) ⟨?_, trivial⟩
          refine vcE_done (by kernel_rfl) ?_
          exact ⟨(bi, bo), ⟨rfl, rfl, rfl, rfl, trivial⟩, hS.perm (List.Perm.swap _ _ _)⟩
      · refine mk64 hS ?_
        intro bo w2 hS
        refine vcE_step 0 [] (by kernel_rfl) ⟨?_, trivial⟩
        refine mk64 hS ?_
        intro bi w3 hS
        refine vcE_step 2 [] (by kernel_rfl) ⟨?_, trivial⟩
        refine vcE_step 3 [] (by kernel_rfl) ⟨?_, trivial⟩
        refine vcE_done (by kernel_rfl) ?_
        exact ⟨(bi, bo), ⟨rfl, rfl, rfl, rfl, trivial⟩, hS⟩
    rintro ⟨bi, bo⟩ w2 hS
    simp only at hS ⊢
    repeat (first | refine SemW.run tblOk ?_ | refine IntG.nw (by omega) ?_ | refine IntG.nu8 (by omega) ?_ | refine IntG.nu32 (by omega) ?_ | refine IntG.nu64 (by omega) ?_ | refine IntG.wr' rfl ?_ | refine Chk.mk (by omega) ?_ | (refine BrG.id ?_; first | with_reducible refine BrG.t ?_ | with_reducible refine BrG.f ?_ | with_reducible refine BrG.notG ?_ | with_reducible refine BrG.nn ?_ | with_reducible refine BrG.ns ?_ | refine BrG.pos (by omega) ?_ | refine BrG.neg (by omega) ?_ | with_reducible refine BrG.pos rfl ?_ | refine BrG.pos (by assumption) ?_ | refine BrG.neg (by assumption) ?_ | refine BrG.pos (by decide) ?_ | refine BrG.neg (by decide) ?_) | refine Chk.mk (ptr_ok tblOk rfl rfl) ?_ | refine Chk.mk (by decide) ?_)
    refine St.copyStr tblOk rfl rfl hS (by omega) (by simpa using hk0) ?_
    intro w3 hS
    repeat (first | refine SemW.run tblOk ?_ | refine IntG.nw (by omega) ?_ | refine IntG.nu8 (by omega) ?_ | refine IntG.nu32 (by omega) ?_ | refine IntG.nu64 (by omega) ?_ | refine IntG.wr' rfl ?_ | refine Chk.mk (by omega) ?_ | (refine BrG.id ?_; first | with_reducible refine BrG.t ?_ | with_reducible refine BrG.f ?_ | with_reducible refine BrG.notG ?_ | with_reducible refine BrG.nn ?_ | with_reducible refine BrG.ns ?_ | refine BrG.pos (by omega) ?_ | refine BrG.neg (by omega) ?_ | with_reducible refine BrG.pos rfl ?_ | refine BrG.pos (by assumption) ?_ | refine BrG.neg (by assumption) ?_ | refine BrG.pos (by decide) ?_ | refine BrG.neg (by decide) ?_) | refine Chk.mk (ptr_ok tblOk rfl rfl) ?_ | refine Chk.mk (by decide) ?_)
    refine St.copyStr tblOk rfl rfl hS (by omega) (by simpa using hk0) ?_
    intro w4 hS
    rw [List.drop_replicate, ← hkey] at hS
    have hKl := key64_len key
    generalize key64 key = K at hS hKl ⊢
    repeat (first | refine SemW.run tblOk ?_ | refine IntG.nw (by omega) ?_ | refine IntG.nu8 (by omega) ?_ | refine IntG.nu32 (by omega) ?_ | refine IntG.nu64 (by omega) ?_ | refine IntG.wr' rfl ?_ | refine Chk.mk (by omega) ?_ | (refine BrG.id ?_; first | with_reducible refine BrG.t ?_ | with_reducible refine BrG.f ?_ | with_reducible refine BrG.notG ?_ | with_reducible refine BrG.nn ?_ | with_reducible refine BrG.ns ?_ | refine BrG.pos (by omega) ?_ | refine BrG.neg (by omega) ?_ | with_reducible refine BrG.pos rfl ?_ | refine BrG.pos (by assumption) ?_ | refine BrG.neg (by assumption) ?_ | refine BrG.pos (by decide) ?_ | refine BrG.neg (by decide) ?_) | refine Chk.mk (ptr_ok tblOk rfl rfl) ?_ | refine Chk.mk (by decide) ?_)
    refine SemW.loop (fun k : Nat => [(1, .slice a ps.length cap), (5, .slice (some ⟨bi, 0, none⟩) 64 64), (6, .slice (some ⟨bo, 0, none⟩) 64 64), (23, .int .i64 64), (24, .int .i64 k)])
      (fun k w' => k ≤ 64 ∧ St w [] ((bi, .cells ⟨(xorTo 0x36 K k).map byteV⟩ T_uint8 (0, 0)) :: (bo, .cells ⟨(xorTo 0x5c K k).map byteV⟩ T_uint8 (0, 0)) :: []) w') (fun k => 64 - k) 0
      ⟨rfl, rfl, rfl, rfl, rfl, trivial⟩ ⟨Nat.zero_le _, by simpa [xorTo] using hS⟩ ?_
    rintro k w5 ⟨hk, hS⟩
    have h36 := xorTo_len 0x36 K k
    have h5c := xorTo_len 0x5c K k
    by_cases hkl : k < 64
    · have e0 : 0 + ((k : Int)).toNat * 1 = k := by omega
      have x36 := xor8 (K[k]'(by omega)) 54 (by omega)
      have x5c := xor8 (K[k]'(by omega)) 92 (by omega)
      repeat (first | refine SemW.run tblOk ?_ | refine IntG.nw (by omega) ?_ | refine IntG.nu8 (by omega) ?_ | refine IntG.nu32 (by omega) ?_ | refine IntG.nu64 (by omega) ?_ | refine IntG.wr' rfl ?_ | refine Chk.mk (by omega) ?_ | (refine BrG.id ?_; first | with_reducible refine BrG.t ?_ | with_reducible refine BrG.f ?_ | with_reducible refine BrG.notG ?_ | with_reducible refine BrG.nn ?_ | with_reducible refine BrG.ns ?_ | refine BrG.pos (by omega) ?_ | refine BrG.neg (by omega) ?_ | with_reducible refine BrG.pos rfl ?_ | refine BrG.pos (by assumption) ?_ | refine BrG.neg (by assumption) ?_ | refine BrG.pos (by decide) ?_ | refine BrG.neg (by decide) ?_) | refine Chk.mk (ptr_ok tblOk rfl rfl) ?_ | refine Chk.mk (by decide) ?_)
      refine hS.ld (v := byteV (K[k]'(by omega))) (by rw [e0]; exact xorTo_get _ K k (by omega)) ?_
      repeat (first | refine SemW.run tblOk ?_ | refine IntG.nw (by omega) ?_ | refine IntG.nu8 (by omega) ?_ | refine IntG.nu32 (by omega) ?_ | refine IntG.nu64 (by omega) ?_ | refine IntG.wr' rfl ?_ | refine Chk.mk (by omega) ?_ | (refine BrG.id ?_; first | with_reducible refine BrG.t ?_ | with_reducible refine BrG.f ?_ | with_reducible refine BrG.notG ?_ | with_reducible refine BrG.nn ?_ | with_reducible refine BrG.ns ?_ | refine BrG.pos (by omega) ?_ | refine BrG.neg (by omega) ?_ | with_reducible refine BrG.pos rfl ?_ | refine BrG.pos (by assumption) ?_ | refine BrG.neg (by assumption) ?_ | refine BrG.pos (by decide) ?_ | refine BrG.neg (by decide) ?_) | refine Chk.mk (ptr_ok tblOk rfl rfl) ?_ | refine Chk.mk (by decide) ?_)
      refine hS.stI rfl (by rw [List.length_map, e0]; omega) ?_
      intro w6 hS
      have hs1 := xorTo_set 0x36 K k (by omega)
      have hS : St w [] ((bi, .cells ⟨(xorTo 0x36 K (k + 1)).map byteV⟩ T_uint8 (0, 0)) :: (bo, .cells ⟨(xorTo 0x5c K k).map byteV⟩ T_uint8 (0, 0)) :: []) w6 := by
        rw [← hs1]
        have e1 : byteV ((K[k]'(by omega)) ^^^ 54) = Value.int .u8 _ := (congrArg (Value.int .u8) x36).symm
        rw [e1]
        rw [e0] at hS
        exact hS
      repeat (first | refine SemW.run tblOk ?_ | refine IntG.nw (by omega) ?_ | refine IntG.nu8 (by omega) ?_ | refine IntG.nu32 (by omega) ?_ | refine IntG.nu64 (by omega) ?_ | refine IntG.wr' rfl ?_ | refine Chk.mk (by omega) ?_ | (refine BrG.id ?_; first | with_reducible refine BrG.t ?_ | with_reducible refine BrG.f ?_ | with_reducible refine BrG.notG ?_ | with_reducible refine BrG.nn ?_ | with_reducible refine BrG.ns ?_ | refine BrG.pos (by omega) ?_ | refine BrG.neg (by omega) ?_ | with_reducible refine BrG.pos rfl ?_ | refine BrG.pos (by assumption) ?_ | refine BrG.neg (by assumption) ?_ | refine BrG.pos (by decide) ?_ | refine BrG.neg (by decide) ?_) | refine Chk.mk (ptr_ok tblOk rfl rfl) ?_ | refine Chk.mk (by decide) ?_)
      refine hS.ld (v := byteV (K[k]'(by omega))) (by rw [e0]; exact xorTo_get _ K k (by omega)) ?_
      repeat (first | refine SemW.run tblOk ?_ | refine IntG.nw (by omega) ?_ | refine IntG.nu8 (by omega) ?_ | refine IntG.nu32 (by omega) ?_ | refine IntG.nu64 (by omega) ?_ | refine IntG.wr' rfl ?_ | refine Chk.mk (by omega) ?_ | (refine BrG.id ?_; first | with_reducible refine BrG.t ?_ | with_reducible refine BrG.f ?_ | with_reducible refine BrG.notG ?_ | with_reducible refine BrG.nn ?_ | with_reducible refine BrG.ns ?_ | refine BrG.pos (by omega) ?_ | refine BrG.neg (by omega) ?_ | with_reducible refine BrG.pos rfl ?_ | refine BrG.pos (by assumption) ?_ | refine BrG.neg (by assumption) ?_ | refine BrG.pos (by decide) ?_ | refine BrG.neg (by decide) ?_) | refine Chk.mk (ptr_ok tblOk rfl rfl) ?_ | refine Chk.mk (by decide) ?_)
      refine hS.stI rfl (by rw [List.length_map, e0]; omega) ?_
      intro w7 hS
      have hs2 := xorTo_set 0x5c K k (by omega)
      have hS : St w [] ((bi, .cells ⟨(xorTo 0x36 K (k + 1)).map byteV⟩ T_uint8 (0, 0)) :: (bo, .cells ⟨(xorTo 0x5c K (k + 1)).map byteV⟩ T_uint8 (0, 0)) :: []) w7 := by
        rw [← hs2]
        have e1 : byteV ((K[k]'(by omega)) ^^^ 92) = Value.int .u8 _ := (congrArg (Value.int .u8) x5c).symm
        rw [e1]
        rw [e0] at hS
        exact hS
      repeat (first | refine SemW.run tblOk ?_ | refine IntG.nw (by omega) ?_ | refine IntG.nu8 (by omega) ?_ | refine IntG.nu32 (by omega) ?_ | refine IntG.nu64 (by omega) ?_ | refine IntG.wr' rfl ?_ | refine Chk.mk (by omega) ?_ | (refine BrG.id ?_; first | with_reducible refine BrG.t ?_ | with_reducible refine BrG.f ?_ | with_reducible refine BrG.notG ?_ | with_reducible refine BrG.nn ?_ | with_reducible refine BrG.ns ?_ | refine BrG.pos (by omega) ?_ | refine BrG.neg (by omega) ?_ | with_reducible refine BrG.pos rfl ?_ | refine BrG.pos (by assumption) ?_ | refine BrG.neg (by assumption) ?_ | refine BrG.pos (by decide) ?_ | refine BrG.neg (by decide) ?_) | refine Chk.mk (ptr_ok tblOk rfl rfl) ?_ | refine Chk.mk (by decide) ?_)
      exact ⟨k + 1, ⟨rfl, rfl, rfl, rfl, rfl, trivial⟩, ⟨by omega, hS⟩, by omega⟩
    have hk64 : k = 64 := by omega
    subst hk64
    have hx : ∀ c, xorTo c K 64 = K.map (fun b => b ^^^ c) := fun c => by
      unfold xorTo
      rw [List.take_of_length_le (by omega), List.drop_of_length_le (by omega), List.append_nil]
    rw [hx, hx] at hS
    rw [hx] at h36 h5c
    obtain ⟨xi, hxi⟩ : ∃ xi, xi = K.map (fun b => b ^^^ (0x36 : UInt8)) := ⟨_, rfl⟩
    obtain ⟨xo, hxo⟩ : ∃ xo, xo = K.map (fun b => b ^^^ (0x5c : UInt8)) := ⟨_, rfl⟩
    rw [← hxi] at hS h36 ⊢
    rw [← hxo] at hS h5c ⊢
    repeat (first | refine SemW.run tblOk ?_ | refine IntG.nw (by omega) ?_ | refine IntG.nu8 (by omega) ?_ | refine IntG.nu32 (by omega) ?_ | refine IntG.nu64 (by omega) ?_ | refine IntG.wr' rfl ?_ | refine Chk.mk (by omega) ?_ | (refine BrG.id ?_; first | with_reducible refine BrG.t ?_ | with_reducible refine BrG.f ?_ | with_reducible refine BrG.notG ?_ | with_reducible refine BrG.nn ?_ | with_reducible refine BrG.ns ?_ | refine BrG.pos (by omega) ?_ | refine BrG.neg (by omega) ?_ | with_reducible refine BrG.pos rfl ?_ | refine BrG.pos (by assumption) ?_ | refine BrG.neg (by assumption) ?_ | refine BrG.pos (by decide) ?_ | refine BrG.neg (by decide) ?_) | refine Chk.mk (ptr_ok tblOk rfl rfl) ?_ | refine Chk.mk (by decide) ?_)
    refine SemW.draw tblOk mixed (fun w' => St w [] ((bi, .cells ⟨xi.map byteV⟩ T_uint8 (0, 0)) :: (bo, .cells ⟨xo.map byteV⟩ T_uint8 (0, 0)) :: []) w') [9, 10] [0, 1, 2, 3, 5, 4, 6, 7, 8, 9, 10] (by kernel_rfl) hS.drew ?_
    have hS := hS.drew
    repeat (first | refine SemW.run tblOk ?_ | refine IntG.nw (by omega) ?_ | refine IntG.nu8 (by omega) ?_ | refine IntG.nu32 (by omega) ?_ | refine IntG.nu64 (by omega) ?_ | refine IntG.wr' rfl ?_ | refine Chk.mk (by omega) ?_ | (refine BrG.id ?_; first | with_reducible refine BrG.t ?_ | with_reducible refine BrG.f ?_ | with_reducible refine BrG.notG ?_ | with_reducible refine BrG.nn ?_ | with_reducible refine BrG.ns ?_ | refine BrG.pos (by omega) ?_ | refine BrG.neg (by omega) ?_ | with_reducible refine BrG.pos rfl ?_ | refine BrG.pos (by assumption) ?_ | refine BrG.neg (by assumption) ?_ | refine BrG.pos (by decide) ?_ | refine BrG.neg (by decide) ?_) | refine Chk.mk (ptr_ok tblOk rfl rfl) ?_ | refine Chk.mk (by decide) ?_ | refine hS.ldC rfl ?_ | refine hS.ldnC rfl ?_)
    refine toStr (T := []) tblOk rfl rfl rfl rfl rfl rfl (bs := xo) (by omega) (fun w' hw' => hw'.arr (b := bo) (by simp)) ?_
    repeat (first | refine SemW.run tblOk ?_ | refine IntG.nw (by omega) ?_ | refine IntG.nu8 (by omega) ?_ | refine IntG.nu32 (by omega) ?_ | refine IntG.nu64 (by omega) ?_ | refine IntG.wr' rfl ?_ | refine Chk.mk (by omega) ?_ | (refine BrG.id ?_; first | with_reducible refine BrG.t ?_ | with_reducible refine BrG.f ?_ | with_reducible refine BrG.notG ?_ | with_reducible refine BrG.nn ?_ | with_reducible refine BrG.ns ?_ | refine BrG.pos (by omega) ?_ | refine BrG.neg (by omega) ?_ | with_reducible refine BrG.pos rfl ?_ | refine BrG.pos (by assumption) ?_ | refine BrG.neg (by assumption) ?_ | refine BrG.pos (by decide) ?_ | refine BrG.neg (by decide) ?_) | refine Chk.mk (ptr_ok tblOk rfl rfl) ?_ | refine Chk.mk (by decide) ?_ | refine hS.ldC rfl ?_ | refine hS.ldnC rfl ?_)
    refine toStr (T := []) tblOk rfl rfl rfl rfl rfl rfl (bs := xi) (by omega) (fun w' hw' => hw'.arr (b := bi) (by simp)) ?_
    repeat (first | refine SemW.run tblOk ?_ | refine IntG.nw (by omega) ?_ | refine IntG.nu8 (by omega) ?_ | refine IntG.nu32 (by omega) ?_ | refine IntG.nu64 (by omega) ?_ | refine IntG.wr' rfl ?_ | refine Chk.mk (by omega) ?_ | (refine BrG.id ?_; first | with_reducible refine BrG.t ?_ | with_reducible refine BrG.f ?_ | with_reducible refine BrG.notG ?_ | with_reducible refine BrG.nn ?_ | with_reducible refine BrG.ns ?_ | refine BrG.pos (by omega) ?_ | refine BrG.neg (by omega) ?_ | with_reducible refine BrG.pos rfl ?_ | refine BrG.pos (by assumption) ?_ | refine BrG.neg (by assumption) ?_ | refine BrG.pos (by decide) ?_ | refine BrG.neg (by decide) ?_) | refine Chk.mk (ptr_ok tblOk rfl rfl) ?_ | refine Chk.mk (by decide) ?_ | refine hS.ldC rfl ?_ | refine hS.ldnC rfl ?_)
    refine hS.al ?_
    intro r w6 _ hS
    refine Chk.mk (hS.sub (List.sublist_cons_self _ _)) ?_
    repeat (first | refine SemW.run tblOk ?_ | refine IntG.nw (by omega) ?_ | refine IntG.nu8 (by omega) ?_ | refine IntG.nu32 (by omega) ?_ | refine IntG.nu64 (by omega) ?_ | refine IntG.wr' rfl ?_ | refine Chk.mk (by omega) ?_ | (refine BrG.id ?_; first | with_reducible refine BrG.t ?_ | with_reducible refine BrG.f ?_ | with_reducible refine BrG.notG ?_ | with_reducible refine BrG.nn ?_ | with_reducible refine BrG.ns ?_ | refine BrG.pos (by omega) ?_ | refine BrG.neg (by omega) ?_ | with_reducible refine BrG.pos rfl ?_ | refine BrG.pos (by assumption) ?_ | refine BrG.neg (by assumption) ?_ | refine BrG.pos (by decide) ?_ | refine BrG.neg (by decide) ?_) | refine Chk.mk (ptr_ok tblOk rfl rfl) ?_ | refine Chk.mk (by decide) ?_ | refine hS.ldC rfl ?_ | refine hS.ldnC rfl ?_)
    refine St.app (sz := 1) (m := ps.length) tblOk rfl rfl rfl rfl hS (Vec.made T_string r [Str xi]) (news := ps.map Str) (by simp) (hS.arrOld ha) (by simp [Value.oneCell']) (by show (_ + _) * 16 ≤ _; simp; omega) (by simp; omega) ?_
    intro a' cap' L9 w7 hv9 hS
    rw [show [Str xi].length + ps.length = (xi :: ps).length by simp; omega, show [Str xi] ++ ps.map Str = (xi :: ps).map Str by rfl] at hv9
    rw [show [Str xi].length + ps.length = (xi :: ps).length by simp; omega]
    refine Chk.mk (hS.sub (List.sublist_append_right _ _)) ?_
    have hsl : sumLen (xi :: ps) = xi.length + sumLen ps := by simp [sumLen]
    repeat (first | refine SemW.run tblOk ?_ | refine IntG.nw (by omega) ?_ | refine IntG.nu8 (by omega) ?_ | refine IntG.nu32 (by omega) ?_ | refine IntG.nu64 (by omega) ?_ | refine IntG.wr' rfl ?_ | refine Chk.mk (by omega) ?_ | (refine BrG.id ?_; first | with_reducible refine BrG.t ?_ | with_reducible refine BrG.f ?_ | with_reducible refine BrG.notG ?_ | with_reducible refine BrG.nn ?_ | with_reducible refine BrG.ns ?_ | refine BrG.pos (by omega) ?_ | refine BrG.neg (by omega) ?_ | with_reducible refine BrG.pos rfl ?_ | refine BrG.pos (by assumption) ?_ | refine BrG.neg (by assumption) ?_ | refine BrG.pos (by decide) ?_ | refine BrG.neg (by decide) ?_) | refine Chk.mk (ptr_ok tblOk rfl rfl) ?_ | refine Chk.mk (by decide) ?_ | refine hS.ldC rfl ?_ | refine hS.ldnC rfl ?_)
    refine Cl.mono (TSum_spec (ps := xi :: ps) (hv9.arr hS (by simp)) (by omega) (by simp; omega)) ?_
    rintro _ w8 ⟨rfl, hS'⟩
    have hS := (hS.call0 hS').sub (H' := ((bi, .cells ⟨xi.map byteV⟩ T_uint8 (0, 0)) :: (bo, .cells ⟨xo.map byteV⟩ T_uint8 (0, 0)) :: [])) (List.sublist_append_right _ _)
    refine Chk.mk hS ?_
    repeat (first | refine SemW.run tblOk ?_ | refine IntG.nw (by omega) ?_ | refine IntG.nu8 (by omega) ?_ | refine IntG.nu32 (by omega) ?_ | refine IntG.nu64 (by omega) ?_ | refine IntG.wr' rfl ?_ | refine Chk.mk (by omega) ?_ | (refine BrG.id ?_; first | with_reducible refine BrG.t ?_ | with_reducible refine BrG.f ?_ | with_reducible refine BrG.notG ?_ | with_reducible refine BrG.nn ?_ | with_reducible refine BrG.ns ?_ | refine BrG.pos (by omega) ?_ | refine BrG.neg (by omega) ?_ | with_reducible refine BrG.pos rfl ?_ | refine BrG.pos (by assumption) ?_ | refine BrG.neg (by assumption) ?_ | refine BrG.pos (by decide) ?_ | refine BrG.neg (by decide) ?_) | refine Chk.mk (ptr_ok tblOk rfl rfl) ?_ | refine Chk.mk (by decide) ?_ | refine hS.ldC rfl ?_ | refine hS.ldnC rfl ?_)
    refine hS.al ?_
    intro r2 w9 _ hS
    refine Chk.mk (hS.sub (List.sublist_cons_self _ _)) ?_
    have hsh := shaB_len (xi :: ps).flatten
    have hsl2 : sumLen [xo, shaB (xi :: ps).flatten] = xo.length + 32 := by simp only [sumLen, List.map_cons, List.map_nil, List.sum_cons, List.sum_nil, hsh]; omega
    repeat (first | refine SemW.run tblOk ?_ | refine IntG.nw (by omega) ?_ | refine IntG.nu8 (by omega) ?_ | refine IntG.nu32 (by omega) ?_ | refine IntG.nu64 (by omega) ?_ | refine IntG.wr' rfl ?_ | refine Chk.mk (by omega) ?_ | (refine BrG.id ?_; first | with_reducible refine BrG.t ?_ | with_reducible refine BrG.f ?_ | with_reducible refine BrG.notG ?_ | with_reducible refine BrG.nn ?_ | with_reducible refine BrG.ns ?_ | refine BrG.pos (by omega) ?_ | refine BrG.neg (by omega) ?_ | with_reducible refine BrG.pos rfl ?_ | refine BrG.pos (by assumption) ?_ | refine BrG.neg (by assumption) ?_ | refine BrG.pos (by decide) ?_ | refine BrG.neg (by decide) ?_) | refine Chk.mk (ptr_ok tblOk rfl rfl) ?_ | refine Chk.mk (by decide) ?_ | refine hS.ldC rfl ?_ | refine hS.ldnC rfl ?_)
    refine Cl.mono (TSum_spec (ps := [xo, shaB (xi :: ps).flatten]) (hS.arr (b := r2) (by simp)) (by omega) (by simp)) ?_
    rintro _ w10 ⟨rfl, hS'⟩
    have hS := hS.call0 hS'
    repeat (first | refine SemW.run tblOk ?_ | refine IntG.nw (by omega) ?_ | refine IntG.nu8 (by omega) ?_ | refine IntG.nu32 (by omega) ?_ | refine IntG.nu64 (by omega) ?_ | refine IntG.wr' rfl ?_ | refine Chk.mk (by omega) ?_ | (refine BrG.id ?_; first | with_reducible refine BrG.t ?_ | with_reducible refine BrG.f ?_ | with_reducible refine BrG.notG ?_ | with_reducible refine BrG.nn ?_ | with_reducible refine BrG.ns ?_ | refine BrG.pos (by omega) ?_ | refine BrG.neg (by omega) ?_ | with_reducible refine BrG.pos rfl ?_ | refine BrG.pos (by assumption) ?_ | refine BrG.neg (by assumption) ?_ | refine BrG.pos (by decide) ?_ | refine BrG.neg (by decide) ?_) | refine Chk.mk (ptr_ok tblOk rfl rfl) ?_ | refine Chk.mk (by decide) ?_ | refine hS.ldC rfl ?_ | refine hS.ldnC rfl ?_)
    refine ⟨congrArg Str ?_, hS.nil⟩
    simp
  · have hkey : key64 key = key ++ List.replicate (64 - key.length) 0 := by unfold key64; rw [if_neg h64]
    have hk0 : key.length ≤ 64 := by omega
    repeat (first | refine SemW.run tblOk ?_ | refine IntG.nw (by omega) ?_ | refine IntG.nu8 (by omega) ?_ | refine IntG.nu32 (by omega) ?_ | refine IntG.nu64 (by omega) ?_ | refine IntG.wr' rfl ?_ | refine Chk.mk (by omega) ?_ | (refine BrG.id ?_; first | with_reducible refine BrG.t ?_ | with_reducible refine BrG.f ?_ | with_reducible refine BrG.notG ?_ | with_reducible refine BrG.nn ?_ | with_reducible refine BrG.ns ?_ | refine BrG.pos (by omega) ?_ | refine BrG.neg (by omega) ?_ | with_reducible refine BrG.pos rfl ?_ | refine BrG.pos (by assumption) ?_ | refine BrG.neg (by assumption) ?_ | refine BrG.pos (by decide) ?_ | refine BrG.neg (by decide) ?_) | refine Chk.mk (ptr_ok tblOk rfl rfl) ?_ | refine Chk.mk (by decide) ?_)
    refine StopW.meet (fun x : Nat × Nat => [(0, Str key), (1, .slice a ps.length cap), (5, .slice (some ⟨x.1, 0, none⟩) 64 64), (6, .slice (some ⟨x.2, 0, none⟩) 64 64)])
      (fun x w' => St w [] ((x.1, .cells ⟨(List.replicate 64 (0 : UInt8)).map byteV⟩ T_uint8 (0, 0)) :: (x.2, .cells ⟨(List.replicate 64 (0 : UInt8)).map byteV⟩ T_uint8 (0, 0)) :: []) w') ?_ ?_
    · refine SemW.drawE tblOk mixed ?_
      have hS := hS.drew
      refine vcE_step 0 [1] (by kernel_rfl) ⟨?_, ?_, trivial⟩
      · refine mk64 hS ?_
        intro bi w2 hS
        refine vcE_step 1 [2] (by kernel_rfl) ⟨?_, ?_, trivial⟩
        · refine mk64 hS ?_
          intro bo w3 hS
          refine vcE_step 2 [] (by kernel_rfl) ⟨?_, trivial⟩
          refine vcE_step 3 [] (by kernel_rfl) ⟨?_, trivial⟩
          refine vcE_done (by kernel_rfl) ?_
          exact ⟨(bi, bo), ⟨rfl, rfl, rfl, rfl, trivial⟩, hS.perm (List.Perm.swap _ _ _)⟩
        · refine vcE_step 1 [] (by kernel_rfl) ⟨?_, trivial⟩
          refine mk64 hS ?_
          intro bo w3 hS
          refine vcE_step 3 [] (by kernel_rfl) ⟨?_, trivial⟩
          refine vcE_done (by kernel_rfl) ?_
          exact ⟨(bi, bo), ⟨rfl, rfl, rfl, rfl, trivial⟩, hS.perm (List.Perm.swap _ _ _)⟩
      · refine mk64 hS ?_
        intro bo w2 hS
        refine vcE_step 0 [] (by kernel_rfl) ⟨?_, trivial⟩
        refine mk64 hS ?_
        intro bi w3 hS
        refine vcE_step 2 [] (by kernel_rfl) ⟨?_, trivial⟩
        refine vcE_step 3 [] (by kernel_rfl) ⟨?_, trivial⟩
        refine vcE_done (by kernel_rfl) ?_
        exact ⟨(bi, bo), ⟨rfl, rfl, rfl, rfl, trivial⟩, hS⟩
    rintro ⟨bi, bo⟩ w2 hS
    simp only at hS ⊢
    repeat (first | refine SemW.run tblOk ?_ | refine IntG.nw (by omega) ?_ | refine IntG.nu8 (by omega) ?_ | refine IntG.nu32 (by omega) ?_ | refine IntG.nu64 (by omega) ?_ | refine IntG.wr' rfl ?_ | refine Chk.mk (by omega) ?_ | (refine BrG.id ?_; first | with_reducible refine BrG.t ?_ | with_reducible refine BrG.f ?_ | with_reducible refine BrG.notG ?_ | with_reducible refine BrG.nn ?_ | with_reducible refine BrG.ns ?_ | refine BrG.pos (by omega) ?_ | refine BrG.neg (by omega) ?_ | with_reducible refine BrG.pos rfl ?_ | refine BrG.pos (by assumption) ?_ | refine BrG.neg (by assumption) ?_ | refine BrG.pos (by decide) ?_ | refine BrG.neg (by decide) ?_) | refine Chk.mk (ptr_ok tblOk rfl rfl) ?_ | refine Chk.mk (by decide) ?_)
    refine St.copyStr tblOk rfl rfl hS (by omega) (by simpa using hk0) ?_
    intro w3 hS
    repeat (first | refine SemW.run tblOk ?_ | refine IntG.nw (by omega) ?_ | refine IntG.nu8 (by omega) ?_ | refine IntG.nu32 (by omega) ?_ | refine IntG.nu64 (by omega) ?_ | refine IntG.wr' rfl ?_ | refine Chk.mk (by omega) ?_ | (refine BrG.id ?_; first | with_reducible refine BrG.t ?_ | with_reducible refine BrG.f ?_ | with_reducible refine BrG.notG ?_ | with_reducible refine BrG.nn ?_ | with_reducible refine BrG.ns ?_ | refine BrG.pos (by omega) ?_ | refine BrG.neg (by omega) ?_ | with_reducible refine BrG.pos rfl ?_ | refine BrG.pos (by assumption) ?_ | refine BrG.neg (by assumption) ?_ | refine BrG.pos (by decide) ?_ | refine BrG.neg (by decide) ?_) | refine Chk.mk (ptr_ok tblOk rfl rfl) ?_ | refine Chk.mk (by decide) ?_)
    refine St.copyStr tblOk rfl rfl hS (by omega) (by simpa using hk0) ?_
    intro w4 hS
    rw [List.drop_replicate, ← hkey] at hS
    have hKl := key64_len key
    generalize key64 key = K at hS hKl ⊢
    repeat (first | refine SemW.run tblOk ?_ | refine IntG.nw (by omega) ?_ | refine IntG.nu8 (by omega) ?_ | refine IntG.nu32 (by omega) ?_ | refine IntG.nu64 (by omega) ?_ | refine IntG.wr' rfl ?_ | refine Chk.mk (by omega) ?_ | (refine BrG.id ?_; first | with_reducible refine BrG.t ?_ | with_reducible refine BrG.f ?_ | with_reducible refine BrG.notG ?_ | with_reducible refine BrG.nn ?_ | with_reducible refine BrG.ns ?_ | refine BrG.pos (by omega) ?_ | refine BrG.neg (by omega) ?_ | with_reducible refine BrG.pos rfl ?_ | refine BrG.pos (by assumption) ?_ | refine BrG.neg (by assumption) ?_ | refine BrG.pos (by decide) ?_ | refine BrG.neg (by decide) ?_) | refine Chk.mk (ptr_ok tblOk rfl rfl) ?_ | refine Chk.mk (by decide) ?_)
    refine SemW.loop (fun k : Nat => [(1, .slice a ps.length cap), (5, .slice (some ⟨bi, 0, none⟩) 64 64), (6, .slice (some ⟨bo, 0, none⟩) 64 64), (23, .int .i64 64), (24, .int .i64 k)])
      (fun k w' => k ≤ 64 ∧ St w [] ((bi, .cells ⟨(xorTo 0x36 K k).map byteV⟩ T_uint8 (0, 0)) :: (bo, .cells ⟨(xorTo 0x5c K k).map byteV⟩ T_uint8 (0, 0)) :: []) w') (fun k => 64 - k) 0
      ⟨rfl, rfl, rfl, rfl, rfl, trivial⟩ ⟨Nat.zero_le _, by simpa [xorTo] using hS⟩ ?_
    rintro k w5 ⟨hk, hS⟩
    have h36 := xorTo_len 0x36 K k
    have h5c := xorTo_len 0x5c K k
    by_cases hkl : k < 64
    · have e0 : 0 + ((k : Int)).toNat * 1 = k := by omega
      have x36 := xor8 (K[k]'(by omega)) 54 (by omega)
      have x5c := xor8 (K[k]'(by omega)) 92 (by omega)
      repeat (first | refine SemW.run tblOk ?_ | refine IntG.nw (by omega) ?_ | refine IntG.nu8 (by omega) ?_ | refine IntG.nu32 (by omega) ?_ | refine IntG.nu64 (by omega) ?_ | refine IntG.wr' rfl ?_ | refine Chk.mk (by omega) ?_ | (refine BrG.id ?_; first | with_reducible refine BrG.t ?_ | with_reducible refine BrG.f ?_ | with_reducible refine BrG.notG ?_ | with_reducible refine BrG.nn ?_ | with_reducible refine BrG.ns ?_ | refine BrG.pos (by omega) ?_ | refine BrG.neg (by omega) ?_ | with_reducible refine BrG.pos rfl ?_ | refine BrG.pos (by assumption) ?_ | refine BrG.neg (by assumption) ?_ | refine BrG.pos (by decide) ?_ | refine BrG.neg (by decide) ?_) | refine Chk.mk (ptr_ok tblOk rfl rfl) ?_ | refine Chk.mk (by decide) ?_)
      refine hS.ld (v := byteV (K[k]'(by omega))) (by rw [e0]; exact xorTo_get _ K k (by omega)) ?_
      repeat (first | refine SemW.run tblOk ?_ | refine IntG.nw (by omega) ?_ | refine IntG.nu8 (by omega) ?_ | refine IntG.nu32 (by omega) ?_ | refine IntG.nu64 (by omega) ?_ | refine IntG.wr' rfl ?_ | refine Chk.mk (by omega) ?_ | (refine BrG.id ?_; first | with_reducible refine BrG.t ?_ | with_reducible refine BrG.f ?_ | with_reducible refine BrG.notG ?_ | with_reducible refine BrG.nn ?_ | with_reducible refine BrG.ns ?_ | refine BrG.pos (by omega) ?_ | refine BrG.neg (by omega) ?_ | with_reducible refine BrG.pos rfl ?_ | refine BrG.pos (by assumption) ?_ | refine BrG.neg (by assumption) ?_ | refine BrG.pos (by decide) ?_ | refine BrG.neg (by decide) ?_) | refine Chk.mk (ptr_ok tblOk rfl rfl) ?_ | refine Chk.mk (by decide) ?_)
      refine hS.stI rfl (by rw [List.length_map, e0]; omega) ?_
      intro w6 hS
      have hs1 := xorTo_set 0x36 K k (by omega)
      have hS : St w [] ((bi, .cells ⟨(xorTo 0x36 K (k + 1)).map byteV⟩ T_uint8 (0, 0)) :: (bo, .cells ⟨(xorTo 0x5c K k).map byteV⟩ T_uint8 (0, 0)) :: []) w6 := by
        rw [← hs1]
        have e1 : byteV ((K[k]'(by omega)) ^^^ 54) = Value.int .u8 _ := (congrArg (Value.int .u8) x36).symm
        rw [e1]
        rw [e0] at hS
        exact hS
      repeat (first | refine SemW.run tblOk ?_ | refine IntG.nw (by omega) ?_ | refine IntG.nu8 (by omega) ?_ | refine IntG.nu32 (by omega) ?_ | refine IntG.nu64 (by omega) ?_ | refine IntG.wr' rfl ?_ | refine Chk.mk (by omega) ?_ | (refine BrG.id ?_; first | with_reducible refine BrG.t ?_ | with_reducible refine BrG.f ?_ | with_reducible refine BrG.notG ?_ | with_reducible refine BrG.nn ?_ | with_reducible refine BrG.ns ?_ | refine BrG.pos (by omega) ?_ | refine BrG.neg (by omega) ?_ | with_reducible refine BrG.pos rfl ?_ | refine BrG.pos (by assumption) ?_ | refine BrG.neg (by assumption) ?_ | refine BrG.pos (by decide) ?_ | refine BrG.neg (by decide) ?_) | refine Chk.mk (ptr_ok tblOk rfl rfl) ?_ | refine Chk.mk (by decide) ?_)
      refine hS.ld (v := byteV (K[k]'(by omega))) (by rw [e0]; exact xorTo_get _ K k (by omega)) ?_
      repeat (first | refine SemW.run tblOk ?_ | refine IntG.nw (by omega) ?_ | refine IntG.nu8 (by omega) ?_ | refine IntG.nu32 (by omega) ?_ | refine IntG.nu64 (by omega) ?_ | refine IntG.wr' rfl ?_ | refine Chk.mk (by omega) ?_ | (refine BrG.id ?_; first | with_reducible refine BrG.t ?_ | with_reducible refine BrG.f ?_ | with_reducible refine BrG.notG ?_ | with_reducible refine BrG.nn ?_ | with_reducible refine BrG.ns ?_ | refine BrG.pos (by omega) ?_ | refine BrG.neg (by omega) ?_ | with_reducible refine BrG.pos rfl ?_ | refine BrG.pos (by assumption) ?_ | refine BrG.neg (by assumption) ?_ | refine BrG.pos (by decide) ?_ | refine BrG.neg (by decide) ?_) | refine Chk.mk (ptr_ok tblOk rfl rfl) ?_ | refine Chk.mk (by decide) ?_)
      refine hS.stI rfl (by rw [List.length_map, e0]; omega) ?_
      intro w7 hS
      have hs2 := xorTo_set 0x5c K k (by omega)
      have hS : St w [] ((bi, .cells ⟨(xorTo 0x36 K (k + 1)).map byteV⟩ T_uint8 (0, 0)) :: (bo, .cells ⟨(xorTo 0x5c K (k + 1)).map byteV⟩ T_uint8 (0, 0)) :: []) w7 := by
        rw [← hs2]
        have e1 : byteV ((K[k]'(by omega)) ^^^ 92) = Value.int .u8 _ := (congrArg (Value.int .u8) x5c).symm
        rw [e1]
        rw [e0] at hS
        exact hS
      repeat (first | refine SemW.run tblOk ?_ | refine IntG.nw (by omega) ?_ | refine IntG.nu8 (by omega) ?_ | refine IntG.nu32 (by omega) ?_ | refine IntG.nu64 (by omega) ?_ | refine IntG.wr' rfl ?_ | refine Chk.mk (by omega) ?_ | (refine BrG.id ?_; first | with_reducible refine BrG.t ?_ | with_reducible refine BrG.f ?_ | with_reducible refine BrG.notG ?_ | with_reducible refine BrG.nn ?_ | with_reducible refine BrG.ns ?_ | refine BrG.pos (by omega) ?_ | refine BrG.neg (by omega) ?_ | with_reducible refine BrG.pos rfl ?_ | refine BrG.pos (by assumption) ?_ | refine BrG.neg (by assumption) ?_ | refine BrG.pos (by decide) ?_ | refine BrG.neg (by decide) ?_) | refine Chk.mk (ptr_ok tblOk rfl rfl) ?_ | refine Chk.mk (by decide) ?_)
      exact ⟨k + 1, ⟨rfl, rfl, rfl, rfl, rfl, trivial⟩, ⟨by omega, hS⟩, by omega⟩
    have hk64 : k = 64 := by omega
    subst hk64
    have hx : ∀ c, xorTo c K 64 = K.map (fun b => b ^^^ c) := fun c => by
      unfold xorTo
      rw [List.take_of_length_le (by omega), List.drop_of_length_le (by omega), List.append_nil]
    rw [hx, hx] at hS
    rw [hx] at h36 h5c
    obtain ⟨xi, hxi⟩ : ∃ xi, xi = K.map (fun b => b ^^^ (0x36 : UInt8)) := ⟨_, rfl⟩
    obtain ⟨xo, hxo⟩ : ∃ xo, xo = K.map (fun b => b ^^^ (0x5c : UInt8)) := ⟨_, rfl⟩
    rw [← hxi] at hS h36 ⊢
    rw [← hxo] at hS h5c ⊢
    repeat (first | refine SemW.run tblOk ?_ | refine IntG.nw (by omega) ?_ | refine IntG.nu8 (by omega) ?_ | refine IntG.nu32 (by omega) ?_ | refine IntG.nu64 (by omega) ?_ | refine IntG.wr' rfl ?_ | refine Chk.mk (by omega) ?_ | (refine BrG.id ?_; first | with_reducible refine BrG.t ?_ | with_reducible refine BrG.f ?_ | with_reducible refine BrG.notG ?_ | with_reducible refine BrG.nn ?_ | with_reducible refine BrG.ns ?_ | refine BrG.pos (by omega) ?_ | refine BrG.neg (by omega) ?_ | with_reducible refine BrG.pos rfl ?_ | refine BrG.pos (by assumption) ?_ | refine BrG.neg (by assumption) ?_ | refine BrG.pos (by decide) ?_ | refine BrG.neg (by decide) ?_) | refine Chk.mk (ptr_ok tblOk rfl rfl) ?_ | refine Chk.mk (by decide) ?_)
    refine SemW.draw tblOk mixed (fun w' => St w [] ((bi, .cells ⟨xi.map byteV⟩ T_uint8 (0, 0)) :: (bo, .cells ⟨xo.map byteV⟩ T_uint8 (0, 0)) :: []) w') [9, 10] [0, 1, 2, 3, 5, 4, 6, 7, 8, 9, 10] (by kernel_rfl) hS.drew ?_
    have hS := hS.drew
    repeat (first | refine SemW.run tblOk ?_ | refine IntG.nw (by omega) ?_ | refine IntG.nu8 (by omega) ?_ | refine IntG.nu32 (by omega) ?_ | refine IntG.nu64 (by omega) ?_ | refine IntG.wr' rfl ?_ | refine Chk.mk (by omega) ?_ | (refine BrG.id ?_; first | with_reducible refine BrG.t ?_ | with_reducible refine BrG.f ?_ | with_reducible refine BrG.notG ?_ | with_reducible refine BrG.nn ?_ | with_reducible refine BrG.ns ?_ | refine BrG.pos (by omega) ?_ | refine BrG.neg (by omega) ?_ | with_reducible refine BrG.pos rfl ?_ | refine BrG.pos (by assumption) ?_ | refine BrG.neg (by assumption) ?_ | refine BrG.pos (by decide) ?_ | refine BrG.neg (by decide) ?_) | refine Chk.mk (ptr_ok tblOk rfl rfl) ?_ | refine Chk.mk (by decide) ?_ | refine hS.ldC rfl ?_ | refine hS.ldnC rfl ?_)
    refine toStr (T := []) tblOk rfl rfl rfl rfl rfl rfl (bs := xo) (by omega) (fun w' hw' => hw'.arr (b := bo) (by simp)) ?_
    repeat (first | refine SemW.run tblOk ?_ | refine IntG.nw (by omega) ?_ | refine IntG.nu8 (by omega) ?_ | refine IntG.nu32 (by omega) ?_ | refine IntG.nu64 (by omega) ?_ | refine IntG.wr' rfl ?_ | refine Chk.mk (by omega) ?_ | (refine BrG.id ?_; first | with_reducible refine BrG.t ?_ | with_reducible refine BrG.f ?_ | with_reducible refine BrG.notG ?_ | with_reducible refine BrG.nn ?_ | with_reducible refine BrG.ns ?_ | refine BrG.pos (by omega) ?_ | refine BrG.neg (by omega) ?_ | with_reducible refine BrG.pos rfl ?_ | refine BrG.pos (by assumption) ?_ | refine BrG.neg (by assumption) ?_ | refine BrG.pos (by decide) ?_ | refine BrG.neg (by decide) ?_) | refine Chk.mk (ptr_ok tblOk rfl rfl) ?_ | refine Chk.mk (by decide) ?_ | refine hS.ldC rfl ?_ | refine hS.ldnC rfl ?_)
    refine toStr (T := []) tblOk rfl rfl rfl rfl rfl rfl (bs := xi) (by omega) (fun w' hw' => hw'.arr (b := bi) (by simp)) ?_
    repeat (first | refine SemW.run tblOk ?_ | refine IntG.nw (by omega) ?_ | refine IntG.nu8 (by omega) ?_ | refine IntG.nu32 (by omega) ?_ | refine IntG.nu64 (by omega) ?_ | refine IntG.wr' rfl ?_ | refine Chk.mk (by omega) ?_ | (refine BrG.id ?_; first | with_reducible refine BrG.t ?_ | with_reducible refine BrG.f ?_ | with_reducible refine BrG.notG ?_ | with_reducible refine BrG.nn ?_ | with_reducible refine BrG.ns ?_ | refine BrG.pos (by omega) ?_ | refine BrG.neg (by omega) ?_ | with_reducible refine BrG.pos rfl ?_ | refine BrG.pos (by assumption) ?_ | refine BrG.neg (by assumption) ?_ | refine BrG.pos (by decide) ?_ | refine BrG.neg (by decide) ?_) | refine Chk.mk (ptr_ok tblOk rfl rfl) ?_ | refine Chk.mk (by decide) ?_ | refine hS.ldC rfl ?_ | refine hS.ldnC rfl ?_)
    refine hS.al ?_
    intro r w6 _ hS
    refine Chk.mk (hS.sub (List.sublist_cons_self _ _)) ?_
    repeat (first | refine SemW.run tblOk ?_ | refine IntG.nw (by omega) ?_ | refine IntG.nu8 (by omega) ?_ | refine IntG.nu32 (by omega) ?_ | refine IntG.nu64 (by omega) ?_ | refine IntG.wr' rfl ?_ | refine Chk.mk (by omega) ?_ | (refine BrG.id ?_; first | with_reducible refine BrG.t ?_ | with_reducible refine BrG.f ?_ | with_reducible refine BrG.notG ?_ | with_reducible refine BrG.nn ?_ | with_reducible refine BrG.ns ?_ | refine BrG.pos (by omega) ?_ | refine BrG.neg (by omega) ?_ | with_reducible refine BrG.pos rfl ?_ | refine BrG.pos (by assumption) ?_ | refine BrG.neg (by assumption) ?_ | refine BrG.pos (by decide) ?_ | refine BrG.neg (by decide) ?_) | refine Chk.mk (ptr_ok tblOk rfl rfl) ?_ | refine Chk.mk (by decide) ?_ | refine hS.ldC rfl ?_ | refine hS.ldnC rfl ?_)
    refine St.app (sz := 1) (m := ps.length) tblOk rfl rfl rfl rfl hS (Vec.made T_string r [Str xi]) (news := ps.map Str) (by simp) (hS.arrOld ha) (by simp [Value.oneCell']) (by show (_ + _) * 16 ≤ _; simp; omega) (by simp; omega) ?_
    intro a' cap' L9 w7 hv9 hS
    rw [show [Str xi].length + ps.length = (xi :: ps).length by simp; omega, show [Str xi] ++ ps.map Str = (xi :: ps).map Str by rfl] at hv9
    rw [show [Str xi].length + ps.length = (xi :: ps).length by simp; omega]
    refine Chk.mk (hS.sub (List.sublist_append_right _ _)) ?_
    have hsl : sumLen (xi :: ps) = xi.length + sumLen ps := by simp [sumLen]
    repeat (first | refine SemW.run tblOk ?_ | refine IntG.nw (by omega) ?_ | refine IntG.nu8 (by omega) ?_ | refine IntG.nu32 (by omega) ?_ | refine IntG.nu64 (by omega) ?_ | refine IntG.wr' rfl ?_ | refine Chk.mk (by omega) ?_ | (refine BrG.id ?_; first | with_reducible refine BrG.t ?_ | with_reducible refine BrG.f ?_ | with_reducible refine BrG.notG ?_ | with_reducible refine BrG.nn ?_ | with_reducible refine BrG.ns ?_ | refine BrG.pos (by omega) ?_ | refine BrG.neg (by omega) ?_ | with_reducible refine BrG.pos rfl ?_ | refine BrG.pos (by assumption) ?_ | refine BrG.neg (by assumption) ?_ | refine BrG.pos (by decide) ?_ | refine BrG.neg (by decide) ?_) | refine Chk.mk (ptr_ok tblOk rfl rfl) ?_ | refine Chk.mk (by decide) ?_ | refine hS.ldC rfl ?_ | refine hS.ldnC rfl ?_)
    refine Cl.mono (TSum_spec (ps := xi :: ps) (hv9.arr hS (by simp)) (by omega) (by simp; omega)) ?_
    rintro _ w8 ⟨rfl, hS'⟩
    have hS := (hS.call0 hS').sub (H' := ((bi, .cells ⟨xi.map byteV⟩ T_uint8 (0, 0)) :: (bo, .cells ⟨xo.map byteV⟩ T_uint8 (0, 0)) :: [])) (List.sublist_append_right _ _)
    refine Chk.mk hS ?_
    repeat (first | refine SemW.run tblOk ?_ | refine IntG.nw (by omega) ?_ | refine IntG.nu8 (by omega) ?_ | refine IntG.nu32 (by omega) ?_ | refine IntG.nu64 (by omega) ?_ | refine IntG.wr' rfl ?_ | refine Chk.mk (by omega) ?_ | (refine BrG.id ?_; first | with_reducible refine BrG.t ?_ | with_reducible refine BrG.f ?_ | with_reducible refine BrG.notG ?_ | with_reducible refine BrG.nn ?_ | with_reducible refine BrG.ns ?_ | refine BrG.pos (by omega) ?_ | refine BrG.neg (by omega) ?_ | with_reducible refine BrG.pos rfl ?_ | refine BrG.pos (by assumption) ?_ | refine BrG.neg (by assumption) ?_ | refine BrG.pos (by decide) ?_ | refine BrG.neg (by decide) ?_) | refine Chk.mk (ptr_ok tblOk rfl rfl) ?_ | refine Chk.mk (by decide) ?_ | refine hS.ldC rfl ?_ | refine hS.ldnC rfl ?_)
    refine hS.al ?_
    intro r2 w9 _ hS
    refine Chk.mk (hS.sub (List.sublist_cons_self _ _)) ?_
    have hsh := shaB_len (xi :: ps).flatten
    have hsl2 : sumLen [xo, shaB (xi :: ps).flatten] = xo.length + 32 := by simp only [sumLen, List.map_cons, List.map_nil, List.sum_cons, List.sum_nil, hsh]; omega
    repeat (first | refine SemW.run tblOk ?_ | refine IntG.nw (by omega) ?_ | refine IntG.nu8 (by omega) ?_ | refine IntG.nu32 (by omega) ?_ | refine IntG.nu64 (by omega) ?_ | refine IntG.wr' rfl ?_ | refine Chk.mk (by omega) ?_ | (refine BrG.id ?_; first | with_reducible refine BrG.t ?_ | with_reducible refine BrG.f ?_ | with_reducible refine BrG.notG ?_ | with_reducible refine BrG.nn ?_ | with_reducible refine BrG.ns ?_ | refine BrG.pos (by omega) ?_ | refine BrG.neg (by omega) ?_ | with_reducible refine BrG.pos rfl ?_ | refine BrG.pos (by assumption) ?_ | refine BrG.neg (by assumption) ?_ | refine BrG.pos (by decide) ?_ | refine BrG.neg (by decide) ?_) | refine Chk.mk (ptr_ok tblOk rfl rfl) ?_ | refine Chk.mk (by decide) ?_ | refine hS.ldC rfl ?_ | refine hS.ldnC rfl ?_)
    refine Cl.mono (TSum_spec (ps := [xo, shaB (xi :: ps).flatten]) (hS.arr (b := r2) (by simp)) (by omega) (by simp)) ?_
    rintro _ w10 ⟨rfl, hS'⟩
    have hS := hS.call0 hS'
    repeat (first | refine SemW.run tblOk ?_ | refine IntG.nw (by omega) ?_ | refine IntG.nu8 (by omega) ?_ | refine IntG.nu32 (by omega) ?_ | refine IntG.nu64 (by omega) ?_ | refine IntG.wr' rfl ?_ | refine Chk.mk (by omega) ?_ | (refine BrG.id ?_; first | with_reducible refine BrG.t ?_ | with_reducible refine BrG.f ?_ | with_reducible refine BrG.notG ?_ | with_reducible refine BrG.nn ?_ | with_reducible refine BrG.ns ?_ | refine BrG.pos (by omega) ?_ | refine BrG.neg (by omega) ?_ | with_reducible refine BrG.pos rfl ?_ | refine BrG.pos (by assumption) ?_ | refine BrG.neg (by assumption) ?_ | refine BrG.pos (by decide) ?_ | refine BrG.neg (by decide) ?_) | refine Chk.mk (ptr_ok tblOk rfl rfl) ?_ | refine Chk.mk (by decide) ?_ | refine hS.ldC rfl ?_ | refine hS.ldnC rfl ?_)
    refine ⟨congrArg Str ?_, hS.nil⟩
    simp
end Go.Proofs.YtklppplnkpnbhaaDoor
