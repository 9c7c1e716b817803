/- tarmacref02: four, Sum, Frame, First. -/
import Derived.Test.YtkncpdehgcldbaaDoorScanN
import Derived.Test.YtkncpdehgcldbaaDoorRef01N
namespace Go.Proofs.YtkncpdehgcldbaaDoor
open Go Go.Eng Go.Proofs
theorem be4_form (n : Nat) : be4 n = [UInt8.ofNat (n / 16777216), UInt8.ofNat (n / 65536 % 256), UInt8.ofNat (n / 256 % 256), UInt8.ofNat (n % 256)] := by
  have e : ∀ m : Nat, UInt8.ofNat m = UInt8.ofNat (m % 256) := by
    intro m
    apply UInt8.toNat_inj.1
    simp
  unfold be4
  rw [e (n / 2 ^ 16), e (n / 2 ^ 8), e n]
theorem byteV_small (m : Nat) (h : m < 256) : byteV (UInt8.ofNat m) = .int .u8 (m : Int) := by
  unfold byteV
  have : (UInt8.ofNat m).toNat = m := by simp; omega
  rw [this]
set_option maxHeartbeats 1000000 in
theorem four02_spec {w : World} (n : Nat) (hn : n < 4294967296) : Cl Tryd.prog f_tarmacref02_four [.int .u32 n] w fun v w' => v = Str (be4 n) ∧ St w [] [] w' := by
  have hS := St.start w
  have e1 : ((n : Int).tdiv 16777216) = ((n / 16777216 : Nat) : Int) := tdivN n 16777216
  have e2 : ((n : Int).tdiv 65536) = ((n / 65536 : Nat) : Int) := tdivN n 65536
  have e3 : ((n : Int).tdiv 256) = ((n / 256 : Nat) : Int) := tdivN n 256
  have e4 : (((n / 65536 : Nat) : Int).tmod 256) = ((n / 65536 % 256 : Nat) : Int) := tmodN _ 256
  have e5 : (((n / 256 : Nat) : Int).tmod 256) = ((n / 256 % 256 : Nat) : Int) := tmodN _ 256
  have e6 : ((n : Int).tmod 256) = ((n % 256 : Nat) : Int) := tmodN _ 256
  refine en_tarmacref02_four rfl ?_
  repeat (first | refine SemW.run tblOk ?_ | refine IntG.nw (by omega) ?_ | refine IntG.nu8 (by omega) ?_ | refine IntG.nu32 (by omega) ?_ | refine IntG.nu64 (by omega) ?_ | refine IntG.wr' rfl ?_ | refine Chk.mk (by omega) ?_ | (refine BrG.id ?_; first | with_reducible refine BrG.t ?_ | with_reducible refine BrG.f ?_ | with_reducible refine BrG.notG ?_ | with_reducible refine BrG.nn ?_ | with_reducible refine BrG.ns ?_ | refine BrG.pos (by omega) ?_ | refine BrG.neg (by omega) ?_ | with_reducible refine BrG.pos rfl ?_ | refine BrG.pos (by assumption) ?_ | refine BrG.neg (by assumption) ?_ | refine BrG.pos (by decide) ?_ | refine BrG.neg (by decide) ?_) | refine Chk.mk (ptr_ok tblOk rfl rfl) ?_ | refine Chk.mk (by decide) ?_)
  rw [e1]
  repeat (first | refine SemW.run tblOk ?_ | refine IntG.nw (by omega) ?_ | refine IntG.nu8 (by omega) ?_ | refine IntG.nu32 (by omega) ?_ | refine IntG.nu64 (by omega) ?_ | refine IntG.wr' rfl ?_ | refine Chk.mk (by omega) ?_ | (refine BrG.id ?_; first | with_reducible refine BrG.t ?_ | with_reducible refine BrG.f ?_ | with_reducible refine BrG.notG ?_ | with_reducible refine BrG.nn ?_ | with_reducible refine BrG.ns ?_ | refine BrG.pos (by omega) ?_ | refine BrG.neg (by omega) ?_ | with_reducible refine BrG.pos rfl ?_ | refine BrG.pos (by assumption) ?_ | refine BrG.neg (by assumption) ?_ | refine BrG.pos (by decide) ?_ | refine BrG.neg (by decide) ?_) | refine Chk.mk (ptr_ok tblOk rfl rfl) ?_ | refine Chk.mk (by decide) ?_)
  rw [e2]
  repeat (first | refine SemW.run tblOk ?_ | refine IntG.nw (by omega) ?_ | refine IntG.nu8 (by omega) ?_ | refine IntG.nu32 (by omega) ?_ | refine IntG.nu64 (by omega) ?_ | refine IntG.wr' rfl ?_ | refine Chk.mk (by omega) ?_ | (refine BrG.id ?_; first | with_reducible refine BrG.t ?_ | with_reducible refine BrG.f ?_ | with_reducible refine BrG.notG ?_ | with_reducible refine BrG.nn ?_ | with_reducible refine BrG.ns ?_ | refine BrG.pos (by omega) ?_ | refine BrG.neg (by omega) ?_ | with_reducible refine BrG.pos rfl ?_ | refine BrG.pos (by assumption) ?_ | refine BrG.neg (by assumption) ?_ | refine BrG.pos (by decide) ?_ | refine BrG.neg (by decide) ?_) | refine Chk.mk (ptr_ok tblOk rfl rfl) ?_ | refine Chk.mk (by decide) ?_)
  rw [e4]
  repeat (first | refine SemW.run tblOk ?_ | refine IntG.nw (by omega) ?_ | refine IntG.nu8 (by omega) ?_ | refine IntG.nu32 (by omega) ?_ | refine IntG.nu64 (by omega) ?_ | refine IntG.wr' rfl ?_ | refine Chk.mk (by omega) ?_ | (refine BrG.id ?_; first | with_reducible refine BrG.t ?_ | with_reducible refine BrG.f ?_ | with_reducible refine BrG.notG ?_ | with_reducible refine BrG.nn ?_ | with_reducible refine BrG.ns ?_ | refine BrG.pos (by omega) ?_ | refine BrG.neg (by omega) ?_ | with_reducible refine BrG.pos rfl ?_ | refine BrG.pos (by assumption) ?_ | refine BrG.neg (by assumption) ?_ | refine BrG.pos (by decide) ?_ | refine BrG.neg (by decide) ?_) | refine Chk.mk (ptr_ok tblOk rfl rfl) ?_ | refine Chk.mk (by decide) ?_)
  rw [e3]
  repeat (first | refine SemW.run tblOk ?_ | refine IntG.nw (by omega) ?_ | refine IntG.nu8 (by omega) ?_ | refine IntG.nu32 (by omega) ?_ | refine IntG.nu64 (by omega) ?_ | refine IntG.wr' rfl ?_ | refine Chk.mk (by omega) ?_ | (refine BrG.id ?_; first | with_reducible refine BrG.t ?_ | with_reducible refine BrG.f ?_ | with_reducible refine BrG.notG ?_ | with_reducible refine BrG.nn ?_ | with_reducible refine BrG.ns ?_ | refine BrG.pos (by omega) ?_ | refine BrG.neg (by omega) ?_ | with_reducible refine BrG.pos rfl ?_ | refine BrG.pos (by assumption) ?_ | refine BrG.neg (by assumption) ?_ | refine BrG.pos (by decide) ?_ | refine BrG.neg (by decide) ?_) | refine Chk.mk (ptr_ok tblOk rfl rfl) ?_ | refine Chk.mk (by decide) ?_)
  rw [e5]
  repeat (first | refine SemW.run tblOk ?_ | refine IntG.nw (by omega) ?_ | refine IntG.nu8 (by omega) ?_ | refine IntG.nu32 (by omega) ?_ | refine IntG.nu64 (by omega) ?_ | refine IntG.wr' rfl ?_ | refine Chk.mk (by omega) ?_ | (refine BrG.id ?_; first | with_reducible refine BrG.t ?_ | with_reducible refine BrG.f ?_ | with_reducible refine BrG.notG ?_ | with_reducible refine BrG.nn ?_ | with_reducible refine BrG.ns ?_ | refine BrG.pos (by omega) ?_ | refine BrG.neg (by omega) ?_ | with_reducible refine BrG.pos rfl ?_ | refine BrG.pos (by assumption) ?_ | refine BrG.neg (by assumption) ?_ | refine BrG.pos (by decide) ?_ | refine BrG.neg (by decide) ?_) | refine Chk.mk (ptr_ok tblOk rfl rfl) ?_ | refine Chk.mk (by decide) ?_)
  rw [e6]
  repeat (first | refine SemW.run tblOk ?_ | refine IntG.nw (by omega) ?_ | refine IntG.nu8 (by omega) ?_ | refine IntG.nu32 (by omega) ?_ | refine IntG.nu64 (by omega) ?_ | refine IntG.wr' rfl ?_ | refine Chk.mk (by omega) ?_ | (refine BrG.id ?_; first | with_reducible refine BrG.t ?_ | with_reducible refine BrG.f ?_ | with_reducible refine BrG.notG ?_ | with_reducible refine BrG.nn ?_ | with_reducible refine BrG.ns ?_ | refine BrG.pos (by omega) ?_ | refine BrG.neg (by omega) ?_ | with_reducible refine BrG.pos rfl ?_ | refine BrG.pos (by assumption) ?_ | refine BrG.neg (by assumption) ?_ | refine BrG.pos (by decide) ?_ | refine BrG.neg (by decide) ?_) | refine Chk.mk (ptr_ok tblOk rfl rfl) ?_ | refine Chk.mk (by decide) ?_)
  refine hS.al ?_
  intro r w2 _ hS
  repeat (first | refine SemW.run tblOk ?_ | refine IntG.nw (by omega) ?_ | refine IntG.nu8 (by omega) ?_ | refine IntG.nu32 (by omega) ?_ | refine IntG.nu64 (by omega) ?_ | refine IntG.wr' rfl ?_ | refine Chk.mk (by omega) ?_ | (refine BrG.id ?_; first | with_reducible refine BrG.t ?_ | with_reducible refine BrG.f ?_ | with_reducible refine BrG.notG ?_ | with_reducible refine BrG.nn ?_ | with_reducible refine BrG.ns ?_ | refine BrG.pos (by omega) ?_ | refine BrG.neg (by omega) ?_ | with_reducible refine BrG.pos rfl ?_ | refine BrG.pos (by assumption) ?_ | refine BrG.neg (by assumption) ?_ | refine BrG.pos (by decide) ?_ | refine BrG.neg (by decide) ?_) | refine Chk.mk (ptr_ok tblOk rfl rfl) ?_ | refine Chk.mk (by decide) ?_)
  refine toStr (T := []) tblOk rfl rfl rfl rfl rfl rfl (bs := be4 n) rfl (fun w' hw' => by
    subst hw'
    have := hS.arr (b := r) (T' := []) (by simp)
    rw [be4_form n]
    simp only [List.map_cons, List.map_nil, byteV_small (n / 16777216) (by omega), byteV_small (n / 65536 % 256) (by omega), byteV_small (n / 256 % 256) (by omega), byteV_small (n % 256) (by omega)]
    have hw : ∀ m : Nat, m < 256 → IntKind.u8.wrap (m : Int) = (m : Int) := by
      intro m hm
      rw [wrapU .u8 rfl]; congr 1; exact Nat.mod_eq_of_lt hm
    simp only [hw (n / 65536 % 256) (by omega), hw (n / 256 % 256) (by omega)] at this
    exact this) ?_
  repeat (first | refine SemW.run tblOk ?_ | refine IntG.nw (by omega) ?_ | refine IntG.nu8 (by omega) ?_ | refine IntG.nu32 (by omega) ?_ | refine IntG.nu64 (by omega) ?_ | refine IntG.wr' rfl ?_ | refine Chk.mk (by omega) ?_ | (refine BrG.id ?_; first | with_reducible refine BrG.t ?_ | with_reducible refine BrG.f ?_ | with_reducible refine BrG.notG ?_ | with_reducible refine BrG.nn ?_ | with_reducible refine BrG.ns ?_ | refine BrG.pos (by omega) ?_ | refine BrG.neg (by omega) ?_ | with_reducible refine BrG.pos rfl ?_ | refine BrG.pos (by assumption) ?_ | refine BrG.neg (by assumption) ?_ | refine BrG.pos (by decide) ?_ | refine BrG.neg (by decide) ?_) | refine Chk.mk (ptr_ok tblOk rfl rfl) ?_ | refine Chk.mk (by decide) ?_)
  exact ⟨rfl, hS.nil⟩
/-- One bit of the sum. -/
def bitN02 (r : Nat) : Nat := if r % 2 = 1 then (r / 2) ^^^ 3988292384 else r / 2
theorem crcBit_nat (r : Nat) (h : r < 4294967296) : crcBit (r : Int) = ((bitN02 r : Nat) : Int) ∧ bitN02 r < 4294967296 := by
  have e1 : ((r : Int).fdiv (2 ^ (min (1 : Int).toNat 32))) = ((r / 2 : Nat) : Int) := fdivP r 1
  have e2 : andI .u32 (r : Int) 1 = ((r % 2 : Nat) : Int) := by
    have := andU .u32 rfl r 1 h (by decide)
    rw [Nat.and_one_is_mod] at this; exact this
  unfold crcBit bitN02
  rw [e1, e2]
  rcases Nat.mod_two_eq_zero_or_one r with h0 | h1
  · rw [h0, if_neg (by decide)]
    have a1 : andI .u32 3988292384 (IntKind.u32.wrap (0 - ((0 : Nat) : Int))) = ((0 : Nat) : Int) := by decide +kernel
    rw [a1, xorU .u32 rfl (r / 2) 0 (by show _ < 4294967296; omega) (by decide), Nat.xor_zero]
    exact ⟨rfl, by omega⟩
  · rw [h1, if_pos rfl]
    have a1 : andI .u32 3988292384 (IntKind.u32.wrap (0 - ((1 : Nat) : Int))) = ((3988292384 : Nat) : Int) := by decide +kernel
    rw [a1, xorU .u32 rfl (r / 2) 3988292384 (by show _ < 4294967296; omega) (by decide)]
    exact ⟨rfl, Nat.xor_lt_two_pow (n := 32) (show _ < 4294967296 by omega) (by decide)⟩
theorem crcs_one (r : Int) (p : Bytes) (j : Nat) (hj : j < p.length) : crcs r (p.take (j + 1)) = crcBits 8 (xorI .u32 (crcs r (p.take j)) (IntKind.u32.wrap (p.getD j 0).toNat)) := crcs_succ r p j hj
theorem crc_end (n : Nat) (h : n < 4294967296) : xorI .u32 (if IntKind.u32.signed then -1 else IntKind.u32.max) (n : Int) = ((4294967295 - n : Nat) : Int) := by
  have e0 : (if IntKind.u32.signed then (-1 : Int) else IntKind.u32.max) = ((4294967295 : Nat) : Int) := by decide
  rw [e0, xorU .u32 rfl 4294967295 n (by decide) h]
  have h1 : (4294967295 ^^^ n) = 4294967295 - n := by
    have h2 := BitVec.toNat_not (x := BitVec.ofNat 32 n)
    rw [← BitVec.allOnes_xor, BitVec.toNat_xor, BitVec.toNat_allOnes, BitVec.toNat_ofNat, Nat.mod_eq_of_lt h] at h2
    simpa using h2
  rw [h1]
theorem crc_app (a b : Bytes) : crcN [a, b] = crcN [a ++ b] := by
  unfold crcN crc crcs
  simp only [List.foldl_cons, List.foldl_nil, List.foldl_append]
set_option maxHeartbeats 4000000 in
theorem Sum02_spec {w : World} (t : Bytes) (ht : t.length ≤ 1099511627776) : Cl Tryd.prog f_tarmacref02_Sum [Str t] w fun v w' => v = .int .u32 (crcN [t]) ∧ St w [] [] w' := by
  have hS := St.start w
  refine en_tarmacref02_Sum rfl ?_
  repeat (first | refine SemW.run tblOk ?_ | refine IntG.nw (by omega) ?_ | refine IntG.nu8 (by omega) ?_ | refine IntG.nu32 (by omega) ?_ | refine IntG.nu64 (by omega) ?_ | refine IntG.wr' rfl ?_ | refine Chk.mk (by omega) ?_ | (refine BrG.id ?_; first | with_reducible refine BrG.t ?_ | with_reducible refine BrG.f ?_ | with_reducible refine BrG.notG ?_ | with_reducible refine BrG.nn ?_ | with_reducible refine BrG.ns ?_ | refine BrG.pos (by omega) ?_ | refine BrG.neg (by omega) ?_ | with_reducible refine BrG.pos rfl ?_ | refine BrG.pos (by assumption) ?_ | refine BrG.neg (by assumption) ?_ | refine BrG.pos (by decide) ?_ | refine BrG.neg (by decide) ?_) | refine Chk.mk (ptr_ok tblOk rfl rfl) ?_ | refine Chk.mk (by decide) ?_)
  refine SemW.loop (fun z : Nat × Nat => [(0, Str t), (3, .int .u32 z.2), (4, .int .i64 z.1)]) (fun z w' => (z.1 ≤ t.length ∧ crcs 4294967295 (t.take z.1) = (z.2 : Int) ∧ z.2 < 4294967296) ∧ St w [] [] w') (fun z => t.length - z.1) (0, 4294967295)
    ⟨rfl, rfl, rfl, trivial⟩ ⟨⟨Nat.zero_le _, rfl, by decide⟩, hS⟩ ?_
  clear hS
  rintro ⟨i, n⟩ w1 ⟨⟨hi, hn, hlt⟩, hS⟩
  simp only at hi hn hlt hS ⊢
  by_cases hil : i < t.length
  · have hc := (t.getD i 0).toNat_lt
    have hsucc := crcs_one 4294967295 t i hil
    rw [hn] at hsucc
    have hx0 : xorI .u32 (n : Int) (IntKind.u32.wrap ((t.getD i 0).toNat : Int)) = ((n ^^^ (t.getD i 0).toNat : Nat) : Int) := by
      rw [u32wrap (t.getD i 0).toNat (by omega)]; exact xorU .u32 rfl n (t.getD i 0).toNat hlt (by show _ < 4294967296; omega)
    have hx1 : xorI .u32 (n : Int) ((t.getD i 0).toNat : Int) = ((n ^^^ (t.getD i 0).toNat : Nat) : Int) := xorU .u32 rfl n (t.getD i 0).toNat hlt (by show _ < 4294967296; omega)
    have hxl : n ^^^ (t.getD i 0).toNat < 4294967296 := Nat.xor_lt_two_pow (n := 32) hlt (show (t.getD i 0).toNat < 4294967296 by omega)
    rw [hx0] at hsucc
    generalize hcc : n ^^^ (t.getD i 0).toNat = x0 at hx0 hx1 hxl hsucc
    repeat (first | refine SemW.run tblOk ?_ | refine IntG.nw (by omega) ?_ | refine IntG.nu8 (by omega) ?_ | refine IntG.nu32 (by omega) ?_ | refine IntG.nu64 (by omega) ?_ | refine IntG.wr' rfl ?_ | refine Chk.mk (by omega) ?_ | (refine BrG.id ?_; first | with_reducible refine BrG.t ?_ | with_reducible refine BrG.f ?_ | with_reducible refine BrG.notG ?_ | with_reducible refine BrG.nn ?_ | with_reducible refine BrG.ns ?_ | refine BrG.pos (by omega) ?_ | refine BrG.neg (by omega) ?_ | with_reducible refine BrG.pos rfl ?_ | refine BrG.pos (by assumption) ?_ | refine BrG.neg (by assumption) ?_ | refine BrG.pos (by decide) ?_ | refine BrG.neg (by decide) ?_) | refine Chk.mk (ptr_ok tblOk rfl rfl) ?_ | refine Chk.mk (by decide) ?_)
    rw [show ((i : Nat) : Int).toNat = i from rfl, hx0]
    repeat (first | refine SemW.run tblOk ?_ | refine IntG.nw (by omega) ?_ | refine IntG.nu8 (by omega) ?_ | refine IntG.nu32 (by omega) ?_ | refine IntG.nu64 (by omega) ?_ | refine IntG.wr' rfl ?_ | refine Chk.mk (by omega) ?_ | (refine BrG.id ?_; first | with_reducible refine BrG.t ?_ | with_reducible refine BrG.f ?_ | with_reducible refine BrG.notG ?_ | with_reducible refine BrG.nn ?_ | with_reducible refine BrG.ns ?_ | refine BrG.pos (by omega) ?_ | refine BrG.neg (by omega) ?_ | with_reducible refine BrG.pos rfl ?_ | refine BrG.pos (by assumption) ?_ | refine BrG.neg (by assumption) ?_ | refine BrG.pos (by decide) ?_ | refine BrG.neg (by decide) ?_) | refine Chk.mk (ptr_ok tblOk rfl rfl) ?_ | refine Chk.mk (by decide) ?_)
    refine SemW.loop (fun z : Nat × Nat => [(0, Str t), (3, .int .u32 z.2), (4, .int .i64 i), (5, .int .i64 z.1)]) (fun z w' => (z.1 ≤ 8 ∧ crcBits z.1 ((x0 : Nat) : Int) = (z.2 : Int) ∧ z.2 < 4294967296) ∧ St w [] [] w') (fun z => 8 - z.1) (0, x0)
      ⟨rfl, rfl, rfl, rfl, trivial⟩ ⟨⟨Nat.zero_le _, rfl, hxl⟩, hS⟩ ?_
    clear hS
    rintro ⟨b, m⟩ w2 ⟨⟨hb, hm, hml⟩, hS⟩
    simp only at hb hm hml hS ⊢
    by_cases hb8 : b < 8
    · have hbit := crcBit_nat m hml
      have hm2 : crcBits (b + 1) ((x0 : Nat) : Int) = ((bitN02 m : Nat) : Int) := by
        show crcBit (crcBits b _) = _
        rw [hm]; exact hbit.1
      have e1 : ((m : Int).tmod 2) = ((m % 2 : Nat) : Int) := tmodN m 2
      have e2 : ((m : Int).tdiv 2) = ((m / 2 : Nat) : Int) := tdivN m 2
      have hx3 : xorI .u32 ((m / 2 : Nat) : Int) 3988292384 = (((m / 2) ^^^ 3988292384 : Nat) : Int) := xorU .u32 rfl (m / 2) 3988292384 (by show _ < 4294967296; omega) (by decide)
      unfold bitN02 at hm2 hbit
      by_cases h1 : m % 2 = 1
      · rw [if_pos h1] at hm2 hbit
        repeat (first | refine SemW.run tblOk ?_ | refine IntG.nw (by omega) ?_ | refine IntG.nu8 (by omega) ?_ | refine IntG.nu32 (by omega) ?_ | refine IntG.nu64 (by omega) ?_ | refine IntG.wr' rfl ?_ | refine Chk.mk (by omega) ?_ | (refine BrG.id ?_; first | with_reducible refine BrG.t ?_ | with_reducible refine BrG.f ?_ | with_reducible refine BrG.notG ?_ | with_reducible refine BrG.nn ?_ | with_reducible refine BrG.ns ?_ | refine BrG.pos (by omega) ?_ | refine BrG.neg (by omega) ?_ | with_reducible refine BrG.pos rfl ?_ | refine BrG.pos (by assumption) ?_ | refine BrG.neg (by assumption) ?_ | refine BrG.pos (by decide) ?_ | refine BrG.neg (by decide) ?_) | refine Chk.mk (ptr_ok tblOk rfl rfl) ?_ | refine Chk.mk (by decide) ?_)
        rw [e1]
        repeat (first | refine SemW.run tblOk ?_ | refine IntG.nw (by omega) ?_ | refine IntG.nu8 (by omega) ?_ | refine IntG.nu32 (by omega) ?_ | refine IntG.nu64 (by omega) ?_ | refine IntG.wr' rfl ?_ | refine Chk.mk (by omega) ?_ | (refine BrG.id ?_; first | with_reducible refine BrG.t ?_ | with_reducible refine BrG.f ?_ | with_reducible refine BrG.notG ?_ | with_reducible refine BrG.nn ?_ | with_reducible refine BrG.ns ?_ | refine BrG.pos (by omega) ?_ | refine BrG.neg (by omega) ?_ | with_reducible refine BrG.pos rfl ?_ | refine BrG.pos (by assumption) ?_ | refine BrG.neg (by assumption) ?_ | refine BrG.pos (by decide) ?_ | refine BrG.neg (by decide) ?_) | refine Chk.mk (ptr_ok tblOk rfl rfl) ?_ | refine Chk.mk (by decide) ?_)
        rw [e2]
        repeat (first | refine SemW.run tblOk ?_ | refine IntG.nw (by omega) ?_ | refine IntG.nu8 (by omega) ?_ | refine IntG.nu32 (by omega) ?_ | refine IntG.nu64 (by omega) ?_ | refine IntG.wr' rfl ?_ | refine Chk.mk (by omega) ?_ | (refine BrG.id ?_; first | with_reducible refine BrG.t ?_ | with_reducible refine BrG.f ?_ | with_reducible refine BrG.notG ?_ | with_reducible refine BrG.nn ?_ | with_reducible refine BrG.ns ?_ | refine BrG.pos (by omega) ?_ | refine BrG.neg (by omega) ?_ | with_reducible refine BrG.pos rfl ?_ | refine BrG.pos (by assumption) ?_ | refine BrG.neg (by assumption) ?_ | refine BrG.pos (by decide) ?_ | refine BrG.neg (by decide) ?_) | refine Chk.mk (ptr_ok tblOk rfl rfl) ?_ | refine Chk.mk (by decide) ?_)
        rw [hx3]
        repeat (first | refine SemW.run tblOk ?_ | refine IntG.nw (by omega) ?_ | refine IntG.nu8 (by omega) ?_ | refine IntG.nu32 (by omega) ?_ | refine IntG.nu64 (by omega) ?_ | refine IntG.wr' rfl ?_ | refine Chk.mk (by omega) ?_ | (refine BrG.id ?_; first | with_reducible refine BrG.t ?_ | with_reducible refine BrG.f ?_ | with_reducible refine BrG.notG ?_ | with_reducible refine BrG.nn ?_ | with_reducible refine BrG.ns ?_ | refine BrG.pos (by omega) ?_ | refine BrG.neg (by omega) ?_ | with_reducible refine BrG.pos rfl ?_ | refine BrG.pos (by assumption) ?_ | refine BrG.neg (by assumption) ?_ | refine BrG.pos (by decide) ?_ | refine BrG.neg (by decide) ?_) | refine Chk.mk (ptr_ok tblOk rfl rfl) ?_ | refine Chk.mk (by decide) ?_)
        exact ⟨(b + 1, (m / 2) ^^^ 3988292384), ⟨rfl, rfl, rfl, rfl, trivial⟩, ⟨⟨by simp only; omega, hm2, hbit.2⟩, hS⟩, by simp only; omega⟩
      · rw [if_neg h1] at hm2 hbit
        repeat (first | refine SemW.run tblOk ?_ | refine IntG.nw (by omega) ?_ | refine IntG.nu8 (by omega) ?_ | refine IntG.nu32 (by omega) ?_ | refine IntG.nu64 (by omega) ?_ | refine IntG.wr' rfl ?_ | refine Chk.mk (by omega) ?_ | (refine BrG.id ?_; first | with_reducible refine BrG.t ?_ | with_reducible refine BrG.f ?_ | with_reducible refine BrG.notG ?_ | with_reducible refine BrG.nn ?_ | with_reducible refine BrG.ns ?_ | refine BrG.pos (by omega) ?_ | refine BrG.neg (by omega) ?_ | with_reducible refine BrG.pos rfl ?_ | refine BrG.pos (by assumption) ?_ | refine BrG.neg (by assumption) ?_ | refine BrG.pos (by decide) ?_ | refine BrG.neg (by decide) ?_) | refine Chk.mk (ptr_ok tblOk rfl rfl) ?_ | refine Chk.mk (by decide) ?_)
        rw [e1]
        repeat (first | refine SemW.run tblOk ?_ | refine IntG.nw (by omega) ?_ | refine IntG.nu8 (by omega) ?_ | refine IntG.nu32 (by omega) ?_ | refine IntG.nu64 (by omega) ?_ | refine IntG.wr' rfl ?_ | refine Chk.mk (by omega) ?_ | (refine BrG.id ?_; first | with_reducible refine BrG.t ?_ | with_reducible refine BrG.f ?_ | with_reducible refine BrG.notG ?_ | with_reducible refine BrG.nn ?_ | with_reducible refine BrG.ns ?_ | refine BrG.pos (by omega) ?_ | refine BrG.neg (by omega) ?_ | with_reducible refine BrG.pos rfl ?_ | refine BrG.pos (by assumption) ?_ | refine BrG.neg (by assumption) ?_ | refine BrG.pos (by decide) ?_ | refine BrG.neg (by decide) ?_) | refine Chk.mk (ptr_ok tblOk rfl rfl) ?_ | refine Chk.mk (by decide) ?_)
        rw [e2]
        repeat (first | refine SemW.run tblOk ?_ | refine IntG.nw (by omega) ?_ | refine IntG.nu8 (by omega) ?_ | refine IntG.nu32 (by omega) ?_ | refine IntG.nu64 (by omega) ?_ | refine IntG.wr' rfl ?_ | refine Chk.mk (by omega) ?_ | (refine BrG.id ?_; first | with_reducible refine BrG.t ?_ | with_reducible refine BrG.f ?_ | with_reducible refine BrG.notG ?_ | with_reducible refine BrG.nn ?_ | with_reducible refine BrG.ns ?_ | refine BrG.pos (by omega) ?_ | refine BrG.neg (by omega) ?_ | with_reducible refine BrG.pos rfl ?_ | refine BrG.pos (by assumption) ?_ | refine BrG.neg (by assumption) ?_ | refine BrG.pos (by decide) ?_ | refine BrG.neg (by decide) ?_) | refine Chk.mk (ptr_ok tblOk rfl rfl) ?_ | refine Chk.mk (by decide) ?_)
        exact ⟨(b + 1, m / 2), ⟨rfl, rfl, rfl, rfl, trivial⟩, ⟨⟨by simp only; omega, hm2, hbit.2⟩, hS⟩, by simp only; omega⟩
    · have hbe : b = 8 := by omega
      subst hbe
      repeat (first | refine SemW.run tblOk ?_ | refine IntG.nw (by omega) ?_ | refine IntG.nu8 (by omega) ?_ | refine IntG.nu32 (by omega) ?_ | refine IntG.nu64 (by omega) ?_ | refine IntG.wr' rfl ?_ | refine Chk.mk (by omega) ?_ | (refine BrG.id ?_; first | with_reducible refine BrG.t ?_ | with_reducible refine BrG.f ?_ | with_reducible refine BrG.notG ?_ | with_reducible refine BrG.nn ?_ | with_reducible refine BrG.ns ?_ | refine BrG.pos (by omega) ?_ | refine BrG.neg (by omega) ?_ | with_reducible refine BrG.pos rfl ?_ | refine BrG.pos (by assumption) ?_ | refine BrG.neg (by assumption) ?_ | refine BrG.pos (by decide) ?_ | refine BrG.neg (by decide) ?_) | refine Chk.mk (ptr_ok tblOk rfl rfl) ?_ | refine Chk.mk (by decide) ?_)
      exact ⟨(i + 1, m), ⟨rfl, rfl, rfl, trivial⟩, ⟨⟨by simp only; omega, by simp only; rw [hsucc]; exact hm, hml⟩, hS⟩, by simp only; omega⟩
  · have hie : i = t.length := by omega
    subst hie
    rw [List.take_length] at hn
    have hcr : crcN [t] = 4294967295 - n := by
      have : crc [t] = ((4294967295 - n : Nat) : Int) := by
        unfold crc
        rw [List.foldl_cons, List.foldl_nil, hn]
        exact crc_end n hlt
      unfold crcN
      rw [this]; exact Int.toNat_natCast _
    rw [hcr]
    repeat (first | refine SemW.run tblOk ?_ | refine IntG.nw (by omega) ?_ | refine IntG.nu8 (by omega) ?_ | refine IntG.nu32 (by omega) ?_ | refine IntG.nu64 (by omega) ?_ | refine IntG.wr' rfl ?_ | refine Chk.mk (by omega) ?_ | (refine BrG.id ?_; first | with_reducible refine BrG.t ?_ | with_reducible refine BrG.f ?_ | with_reducible refine BrG.notG ?_ | with_reducible refine BrG.nn ?_ | with_reducible refine BrG.ns ?_ | refine BrG.pos (by omega) ?_ | refine BrG.neg (by omega) ?_ | with_reducible refine BrG.pos rfl ?_ | refine BrG.pos (by assumption) ?_ | refine BrG.neg (by assumption) ?_ | refine BrG.pos (by decide) ?_ | refine BrG.neg (by decide) ?_) | refine Chk.mk (ptr_ok tblOk rfl rfl) ?_ | refine Chk.mk (by decide) ?_)
    refine ⟨?_, hS⟩
    congr 1; omega
theorem be4_num4 (l : Bytes) (h : 4 ≤ l.length) : be4 (num4 l) = l.take 4 := by
  match l, h with
  | a :: b :: c :: d :: r, _ =>
    have ha := a.toNat_lt
    have hb := b.toNat_lt
    have hc := c.toNat_lt
    have hd := d.toNat_lt
    have e : num4 (a :: b :: c :: d :: r) = (a.toNat * 2 ^ 24 + b.toNat * 2 ^ 16) + c.toNat * 2 ^ 8 + d.toNat := rfl
    rw [be4_form _, e]
    have e1 : ((a.toNat * 2 ^ 24 + b.toNat * 2 ^ 16) + c.toNat * 2 ^ 8 + d.toNat) / 16777216 = a.toNat := by omega
    have e2 : ((a.toNat * 2 ^ 24 + b.toNat * 2 ^ 16) + c.toNat * 2 ^ 8 + d.toNat) / 65536 % 256 = b.toNat := by omega
    have e3 : ((a.toNat * 2 ^ 24 + b.toNat * 2 ^ 16) + c.toNat * 2 ^ 8 + d.toNat) / 256 % 256 = c.toNat := by omega
    have e4 : ((a.toNat * 2 ^ 24 + b.toNat * 2 ^ 16) + c.toNat * 2 ^ 8 + d.toNat) % 256 = d.toNat := by omega
    rw [e1, e2, e3, e4]
    simp
theorem Frame02_spec {w : World} (p : Bytes) (hp : p.length ≤ 1000000000) : Cl Tryd.prog f_tarmacref02_Frame [Str p] w fun v w' => v = Str (frameB p) ∧ St w [] [] w' := by
  have hS := St.start w
  have hb4 : ∀ n, (be4 n).length = 4 := fun _ => rfl
  have h1 := hb4 p.length
  refine en_tarmacref02_Frame rfl ?_
  repeat (first | refine SemW.run tblOk ?_ | refine IntG.nw (by omega) ?_ | refine IntG.nu8 (by omega) ?_ | refine IntG.nu32 (by omega) ?_ | refine IntG.nu64 (by omega) ?_ | refine IntG.wr' rfl ?_ | refine Chk.mk (by omega) ?_ | (refine BrG.id ?_; first | with_reducible refine BrG.t ?_ | with_reducible refine BrG.f ?_ | with_reducible refine BrG.notG ?_ | with_reducible refine BrG.nn ?_ | with_reducible refine BrG.ns ?_ | refine BrG.pos (by omega) ?_ | refine BrG.neg (by omega) ?_ | with_reducible refine BrG.pos rfl ?_ | refine BrG.pos (by assumption) ?_ | refine BrG.neg (by assumption) ?_ | refine BrG.pos (by decide) ?_ | refine BrG.neg (by decide) ?_) | refine Chk.mk (ptr_ok tblOk rfl rfl) ?_ | refine Chk.mk (by decide) ?_)
  refine (four02_spec p.length (by omega)).mono ?_
  rintro _ w1 ⟨rfl, hS'⟩
  have hS := hS.call0 hS'
  repeat (first | refine SemW.run tblOk ?_ | refine IntG.nw (by omega) ?_ | refine IntG.nu8 (by omega) ?_ | refine IntG.nu32 (by omega) ?_ | refine IntG.nu64 (by omega) ?_ | refine IntG.wr' rfl ?_ | refine Chk.mk (by omega) ?_ | (refine BrG.id ?_; first | with_reducible refine BrG.t ?_ | with_reducible refine BrG.f ?_ | with_reducible refine BrG.notG ?_ | with_reducible refine BrG.nn ?_ | with_reducible refine BrG.ns ?_ | refine BrG.pos (by omega) ?_ | refine BrG.neg (by omega) ?_ | with_reducible refine BrG.pos rfl ?_ | refine BrG.pos (by assumption) ?_ | refine BrG.neg (by assumption) ?_ | refine BrG.pos (by decide) ?_ | refine BrG.neg (by decide) ?_) | refine Chk.mk (ptr_ok tblOk rfl rfl) ?_ | refine Chk.mk (by decide) ?_)
  refine (Sum02_spec (be4 p.length ++ p) (by rw [List.length_append]; omega)).mono ?_
  rintro _ w2 ⟨rfl, hS'⟩
  have hS := hS.call0 hS'
  have hlt := (crcN_eq [be4 p.length ++ p]).2
  rw [← crc_app] at hlt ⊢
  generalize hcc : crcN [be4 p.length, p] = cc at hlt ⊢
  have h2 := hb4 cc
  repeat (first | refine SemW.run tblOk ?_ | refine IntG.nw (by omega) ?_ | refine IntG.nu8 (by omega) ?_ | refine IntG.nu32 (by omega) ?_ | refine IntG.nu64 (by omega) ?_ | refine IntG.wr' rfl ?_ | refine Chk.mk (by omega) ?_ | (refine BrG.id ?_; first | with_reducible refine BrG.t ?_ | with_reducible refine BrG.f ?_ | with_reducible refine BrG.notG ?_ | with_reducible refine BrG.nn ?_ | with_reducible refine BrG.ns ?_ | refine BrG.pos (by omega) ?_ | refine BrG.neg (by omega) ?_ | with_reducible refine BrG.pos rfl ?_ | refine BrG.pos (by assumption) ?_ | refine BrG.neg (by assumption) ?_ | refine BrG.pos (by decide) ?_ | refine BrG.neg (by decide) ?_) | refine Chk.mk (ptr_ok tblOk rfl rfl) ?_ | refine Chk.mk (by decide) ?_)
  refine (four02_spec cc hlt).mono ?_
  rintro _ w3 ⟨rfl, hS'⟩
  have hS := hS.call0 hS'
  have h3 : (be4 p.length ++ be4 cc).length = 8 := by rw [List.length_append]; omega
  repeat (first | refine SemW.run tblOk ?_ | refine IntG.nw (by omega) ?_ | refine IntG.nu8 (by omega) ?_ | refine IntG.nu32 (by omega) ?_ | refine IntG.nu64 (by omega) ?_ | refine IntG.wr' rfl ?_ | refine Chk.mk (by omega) ?_ | (refine BrG.id ?_; first | with_reducible refine BrG.t ?_ | with_reducible refine BrG.f ?_ | with_reducible refine BrG.notG ?_ | with_reducible refine BrG.nn ?_ | with_reducible refine BrG.ns ?_ | refine BrG.pos (by omega) ?_ | refine BrG.neg (by omega) ?_ | with_reducible refine BrG.pos rfl ?_ | refine BrG.pos (by assumption) ?_ | refine BrG.neg (by assumption) ?_ | refine BrG.pos (by decide) ?_ | refine BrG.neg (by decide) ?_) | refine Chk.mk (ptr_ok tblOk rfl rfl) ?_ | refine Chk.mk (by decide) ?_)
  refine ⟨?_, hS⟩
  unfold frameB
  rw [hcc]
def pre02 (l : Bytes) : Nat → Nat
  | 0 => 0
  | k + 1 => 256 * pre02 l k + (l.getD k 0).toNat
theorem pre02_le (l : Bytes) : ∀ k, pre02 l k < 256 ^ k
  | 0 => by show 0 < 1; omega
  | k + 1 => by
    have h1 := pre02_le l k
    have h2 := (l.getD k 0).toNat_lt
    show 256 * pre02 l k + _ < _
    rw [Nat.pow_succ]; omega
theorem pre02_num (l : Bytes) : pre02 l 4 = num4 l := by
  have h : pre02 l 4 = 256 * (256 * (256 * (256 * 0 + (l.getD 0 0).toNat) + (l.getD 1 0).toNat) + (l.getD 2 0).toNat) + (l.getD 3 0).toNat := rfl
  rw [h]
  unfold num4
  omega
theorem frame_iff {l : Bytes} (n : Nat) (hn : n = num4 l) (hl : n + 8 ≤ l.length) : frameB ((l.take (8 + n)).drop 8) = l.take (8 + n) ↔ crcN [l.take 4, (l.take (8 + n)).drop 8] = num4 (l.drop 4) := by
  have hpl : ((l.take (8 + n)).drop 8).length = n := by rw [List.length_drop, List.length_take]; omega
  have hb : be4 n = l.take 4 := by rw [hn]; exact be4_num4 l (by omega)
  have hs : l.take (8 + n) = l.take 4 ++ ((l.drop 4).take 4 ++ (l.take (8 + n)).drop 8) := by
    have e1 : l.take (8 + n) = (l.take (8 + n)).take 4 ++ (l.take (8 + n)).drop 4 := (List.take_append_drop 4 _).symm
    have e2 : (l.take (8 + n)).drop 4 = ((l.take (8 + n)).drop 4).take 4 ++ ((l.take (8 + n)).drop 4).drop 4 := (List.take_append_drop 4 _).symm
    rw [List.take_take, Nat.min_eq_left (by omega)] at e1
    rw [List.drop_drop] at e2
    have e3 : ((l.take (8 + n)).drop 4).take 4 = (l.drop 4).take 4 := by
      rw [List.drop_take, List.take_take, Nat.min_eq_left (by omega)]
    rw [e3] at e2
    conv => lhs; rw [e1, e2]
  unfold frameB
  rw [hpl, hb]
  generalize hp : (l.take (8 + n)).drop 8 = p at hs
  rw [hs, List.append_assoc, List.append_right_inj, List.append_left_inj]
  have hb2 := be4_num4 (l.drop 4) (by rw [List.length_drop]; omega)
  rw [← hb2]
  constructor
  · intro h
    have := congrArg num4 h
    rwa [num4_be4 _ (crcN_eq _).2, num4_be4 _ (num4_lt _)] at this
  · intro h; rw [h]
set_option maxHeartbeats 4000000 in
theorem First02_spec {w : World} (t : Bytes) (k : Nat) (ht : t.length ≤ 1000000000) (hk : k ≤ t.length) :
    Cl Tryd.prog f_tarmacref02_First [Str t, .int .i64 k] w fun v w' => v = .tuple ⟨[Str (firstM t k).1, .int .i64 (firstM t k).2.1, .int .i64 (firstM t k).2.2]⟩ ∧ St w [] [] w' := by
  have hS := St.start w
  have hrl : (t.drop k).length = t.length - k := List.length_drop
  refine en_tarmacref02_First rfl ?_
  unfold firstM
  by_cases h1 : t.length < k + 8
  · rw [if_pos h1]
    repeat (first | refine SemW.run tblOk ?_ | refine IntG.nw (by omega) ?_ | refine IntG.nu8 (by omega) ?_ | refine IntG.nu32 (by omega) ?_ | refine IntG.nu64 (by omega) ?_ | refine IntG.wr' rfl ?_ | refine Chk.mk (by omega) ?_ | (refine BrG.id ?_; first | with_reducible refine BrG.t ?_ | with_reducible refine BrG.f ?_ | with_reducible refine BrG.notG ?_ | with_reducible refine BrG.nn ?_ | with_reducible refine BrG.ns ?_ | refine BrG.pos (by omega) ?_ | refine BrG.neg (by omega) ?_ | with_reducible refine BrG.pos rfl ?_ | refine BrG.pos (by assumption) ?_ | refine BrG.neg (by assumption) ?_ | refine BrG.pos (by decide) ?_ | refine BrG.neg (by decide) ?_) | refine Chk.mk (ptr_ok tblOk rfl rfl) ?_ | refine Chk.mk (by decide) ?_)
    exact ⟨rfl, hS⟩
  · rw [if_neg h1]
    repeat (first | refine SemW.run tblOk ?_ | refine IntG.nw (by omega) ?_ | refine IntG.nu8 (by omega) ?_ | refine IntG.nu32 (by omega) ?_ | refine IntG.nu64 (by omega) ?_ | refine IntG.wr' rfl ?_ | refine Chk.mk (by omega) ?_ | (refine BrG.id ?_; first | with_reducible refine BrG.t ?_ | with_reducible refine BrG.f ?_ | with_reducible refine BrG.notG ?_ | with_reducible refine BrG.nn ?_ | with_reducible refine BrG.ns ?_ | refine BrG.pos (by omega) ?_ | refine BrG.neg (by omega) ?_ | with_reducible refine BrG.pos rfl ?_ | refine BrG.pos (by assumption) ?_ | refine BrG.neg (by assumption) ?_ | refine BrG.pos (by decide) ?_ | refine BrG.neg (by decide) ?_) | refine Chk.mk (ptr_ok tblOk rfl rfl) ?_ | refine Chk.mk (by decide) ?_)
    refine SemW.loop (fun i : Nat => [(0, Str t), (1, .int .i64 k), (7, .int .i64 (pre02 (t.drop k) i)), (8, .int .i64 i)]) (fun i w' => i ≤ 4 ∧ St w [] [] w') (fun i => 4 - i) 0
      ⟨rfl, rfl, rfl, rfl, trivial⟩ ⟨Nat.zero_le _, hS⟩ ?_
    clear hS
    rintro i w1 ⟨hi, hS⟩
    have hpl := pre02_le (t.drop k) i
    by_cases hi4 : i < 4
    · have hpw : 256 ^ i ≤ 16777216 := Nat.pow_le_pow_right (n := 256) (i := i) (j := 3) (by omega) (by omega)
      have hsucc : pre02 (t.drop k) (i + 1) = 256 * pre02 (t.drop k) i + (t.getD (k + i) 0).toNat := by
        show 256 * pre02 (t.drop k) i + ((t.drop k).getD i 0).toNat = _
        congr 2
        simp only [List.getD_eq_getElem?_getD, List.getElem?_drop]
      have hc := (t.getD (k + i) 0).toNat_lt
      generalize pre02 (t.drop k) i = m at hpl hsucc ⊢
      repeat (first | refine SemW.run tblOk ?_ | refine IntG.nw (by omega) ?_ | refine IntG.nu8 (by omega) ?_ | refine IntG.nu32 (by omega) ?_ | refine IntG.nu64 (by omega) ?_ | refine IntG.wr' rfl ?_ | refine Chk.mk (by omega) ?_ | (refine BrG.id ?_; first | with_reducible refine BrG.t ?_ | with_reducible refine BrG.f ?_ | with_reducible refine BrG.notG ?_ | with_reducible refine BrG.nn ?_ | with_reducible refine BrG.ns ?_ | refine BrG.pos (by omega) ?_ | refine BrG.neg (by omega) ?_ | with_reducible refine BrG.pos rfl ?_ | refine BrG.pos (by assumption) ?_ | refine BrG.neg (by assumption) ?_ | refine BrG.pos (by decide) ?_ | refine BrG.neg (by decide) ?_) | refine Chk.mk (ptr_ok tblOk rfl rfl) ?_ | refine Chk.mk (by decide) ?_)
      rw [show ((k : Int) + (i : Int)).toNat = k + i by omega]
      repeat (first | refine SemW.run tblOk ?_ | refine IntG.nw (by omega) ?_ | refine IntG.nu8 (by omega) ?_ | refine IntG.nu32 (by omega) ?_ | refine IntG.nu64 (by omega) ?_ | refine IntG.wr' rfl ?_ | refine Chk.mk (by omega) ?_ | (refine BrG.id ?_; first | with_reducible refine BrG.t ?_ | with_reducible refine BrG.f ?_ | with_reducible refine BrG.notG ?_ | with_reducible refine BrG.nn ?_ | with_reducible refine BrG.ns ?_ | refine BrG.pos (by omega) ?_ | refine BrG.neg (by omega) ?_ | with_reducible refine BrG.pos rfl ?_ | refine BrG.pos (by assumption) ?_ | refine BrG.neg (by assumption) ?_ | refine BrG.pos (by decide) ?_ | refine BrG.neg (by decide) ?_) | refine Chk.mk (ptr_ok tblOk rfl rfl) ?_ | refine Chk.mk (by decide) ?_)
      exact ⟨i + 1, ⟨rfl, rfl, by show _ = Value.int .i64 _; congr 1; omega, rfl, trivial⟩, ⟨by omega, hS⟩, by omega⟩
    · have hie : i = 4 := by omega
      subst hie
      rw [pre02_num]
      have hn := num4_lt (t.drop k)
      have hfi := frame_iff (l := t.drop k) (num4 (t.drop k)) rfl
      generalize num4 (t.drop k) = n at hn hfi ⊢
      by_cases h2 : 65536 < n
      · rw [if_pos (.inl h2)]
        repeat (first | refine SemW.run tblOk ?_ | refine IntG.nw (by omega) ?_ | refine IntG.nu8 (by omega) ?_ | refine IntG.nu32 (by omega) ?_ | refine IntG.nu64 (by omega) ?_ | refine IntG.wr' rfl ?_ | refine Chk.mk (by omega) ?_ | (refine BrG.id ?_; first | with_reducible refine BrG.t ?_ | with_reducible refine BrG.f ?_ | with_reducible refine BrG.notG ?_ | with_reducible refine BrG.nn ?_ | with_reducible refine BrG.ns ?_ | refine BrG.pos (by omega) ?_ | refine BrG.neg (by omega) ?_ | with_reducible refine BrG.pos rfl ?_ | refine BrG.pos (by assumption) ?_ | refine BrG.neg (by assumption) ?_ | refine BrG.pos (by decide) ?_ | refine BrG.neg (by decide) ?_) | refine Chk.mk (ptr_ok tblOk rfl rfl) ?_ | refine Chk.mk (by decide) ?_)
        exact ⟨rfl, hS⟩
      · by_cases h3 : (t.drop k).length < n + 8
        · rw [if_pos (.inr h3)]
          repeat (first | refine SemW.run tblOk ?_ | refine IntG.nw (by omega) ?_ | refine IntG.nu8 (by omega) ?_ | refine IntG.nu32 (by omega) ?_ | refine IntG.nu64 (by omega) ?_ | refine IntG.wr' rfl ?_ | refine Chk.mk (by omega) ?_ | (refine BrG.id ?_; first | with_reducible refine BrG.t ?_ | with_reducible refine BrG.f ?_ | with_reducible refine BrG.notG ?_ | with_reducible refine BrG.nn ?_ | with_reducible refine BrG.ns ?_ | refine BrG.pos (by omega) ?_ | refine BrG.neg (by omega) ?_ | with_reducible refine BrG.pos rfl ?_ | refine BrG.pos (by assumption) ?_ | refine BrG.neg (by assumption) ?_ | refine BrG.pos (by decide) ?_ | refine BrG.neg (by decide) ?_) | refine Chk.mk (ptr_ok tblOk rfl rfl) ?_ | refine Chk.mk (by decide) ?_)
          exact ⟨rfl, hS⟩
        · rw [if_neg (by omega)]
          have hfi := hfi (by omega)
          have hsl : ((t.take (k + 8 + n)).drop (k + 8)) = ((t.drop k).take (8 + n)).drop 8 := by
            rw [List.drop_take, List.drop_take, List.drop_drop]
            congr 1; omega
          have hsl2 : ((t.take (k + 8 + n)).drop k) = (t.drop k).take (8 + n) := by
            rw [List.drop_take]; congr 1; omega
          have hpl2 : (((t.drop k).take (8 + n)).drop 8).length = n := by rw [List.length_drop, List.length_take]; omega
          repeat (first | refine SemW.run tblOk ?_ | refine IntG.nw (by omega) ?_ | refine IntG.nu8 (by omega) ?_ | refine IntG.nu32 (by omega) ?_ | refine IntG.nu64 (by omega) ?_ | refine IntG.wr' rfl ?_ | refine Chk.mk (by omega) ?_ | (refine BrG.id ?_; first | with_reducible refine BrG.t ?_ | with_reducible refine BrG.f ?_ | with_reducible refine BrG.notG ?_ | with_reducible refine BrG.nn ?_ | with_reducible refine BrG.ns ?_ | refine BrG.pos (by omega) ?_ | refine BrG.neg (by omega) ?_ | with_reducible refine BrG.pos rfl ?_ | refine BrG.pos (by assumption) ?_ | refine BrG.neg (by assumption) ?_ | refine BrG.pos (by decide) ?_ | refine BrG.neg (by decide) ?_) | refine Chk.mk (ptr_ok tblOk rfl rfl) ?_ | refine Chk.mk (by decide) ?_)
          rw [show ((k : Int) + 8 + (n : Int)).toNat = k + 8 + n by omega, show ((k : Int) + 8).toNat = k + 8 by omega, hsl]
          refine SemW.draw tblOk mixed (fun w' => St w [] [] w') [] [0, 2, 3, 4, 5, 6, 7, 8, 1, 9] (by kernel_rfl) hS.drew ?_
          have hS := hS.drew
          repeat (first | refine SemW.run tblOk ?_ | refine IntG.nw (by omega) ?_ | refine IntG.nu8 (by omega) ?_ | refine IntG.nu32 (by omega) ?_ | refine IntG.nu64 (by omega) ?_ | refine IntG.wr' rfl ?_ | refine Chk.mk (by omega) ?_ | (refine BrG.id ?_; first | with_reducible refine BrG.t ?_ | with_reducible refine BrG.f ?_ | with_reducible refine BrG.notG ?_ | with_reducible refine BrG.nn ?_ | with_reducible refine BrG.ns ?_ | refine BrG.pos (by omega) ?_ | refine BrG.neg (by omega) ?_ | with_reducible refine BrG.pos rfl ?_ | refine BrG.pos (by assumption) ?_ | refine BrG.neg (by assumption) ?_ | refine BrG.pos (by decide) ?_ | refine BrG.neg (by decide) ?_) | refine Chk.mk (ptr_ok tblOk rfl rfl) ?_ | refine Chk.mk (by decide) ?_ | refine hS.ldC rfl ?_ | refine hS.ldnC rfl ?_)
          rw [show ((k : Int) + 8 + (n : Int)).toNat = k + 8 + n by omega, show ((k : Int)).toNat = k from rfl, hsl2]
          refine (Frame02_spec _ (by rw [hpl2]; omega)).mono ?_
          rintro _ w3 ⟨rfl, hS'⟩
          have hS := hS.call0 hS'
          refine Chk.mk hS ?_
          by_cases h5 : frameB (((t.drop k).take (8 + n)).drop 8) = (t.drop k).take (8 + n)
          · rw [if_pos (hfi.1 h5)]
            repeat (first | refine SemW.run tblOk ?_ | refine IntG.nw (by omega) ?_ | refine IntG.nu8 (by omega) ?_ | refine IntG.nu32 (by omega) ?_ | refine IntG.nu64 (by omega) ?_ | refine IntG.wr' rfl ?_ | refine Chk.mk (by omega) ?_ | (refine BrG.id ?_; first | with_reducible refine BrG.t ?_ | with_reducible refine BrG.f ?_ | with_reducible refine BrG.notG ?_ | with_reducible refine BrG.nn ?_ | with_reducible refine BrG.ns ?_ | refine BrG.pos (by omega) ?_ | refine BrG.neg (by omega) ?_ | with_reducible refine BrG.pos rfl ?_ | refine BrG.pos (by assumption) ?_ | refine BrG.neg (by assumption) ?_ | refine BrG.pos (by decide) ?_ | refine BrG.neg (by decide) ?_) | refine Chk.mk (ptr_ok tblOk rfl rfl) ?_ | refine Chk.mk (by decide) ?_ | refine hS.ldC rfl ?_ | refine hS.ldnC rfl ?_)
            repeat (first | refine SemW.run tblOk ?_ | refine IntG.nw (by omega) ?_ | refine IntG.nu8 (by omega) ?_ | refine IntG.nu32 (by omega) ?_ | refine IntG.nu64 (by omega) ?_ | refine IntG.wr' rfl ?_ | refine Chk.mk (by omega) ?_ | (refine BrG.id ?_; first | with_reducible refine BrG.t ?_ | with_reducible refine BrG.f ?_ | with_reducible refine BrG.notG ?_ | with_reducible refine BrG.nn ?_ | with_reducible refine BrG.ns ?_ | refine BrG.pos (by omega) ?_ | refine BrG.neg (by omega) ?_ | with_reducible refine BrG.pos rfl ?_ | refine BrG.pos (by assumption) ?_ | refine BrG.neg (by assumption) ?_ | refine BrG.pos (by decide) ?_ | refine BrG.neg (by decide) ?_) | refine Chk.mk (ptr_ok tblOk rfl rfl) ?_ | refine Chk.mk (by decide) ?_)
            exact ⟨rfl, hS⟩
          · rw [if_neg (fun h => h5 (hfi.2 h))]
            repeat (first | refine SemW.run tblOk ?_ | refine IntG.nw (by omega) ?_ | refine IntG.nu8 (by omega) ?_ | refine IntG.nu32 (by omega) ?_ | refine IntG.nu64 (by omega) ?_ | refine IntG.wr' rfl ?_ | refine Chk.mk (by omega) ?_ | (refine BrG.id ?_; first | with_reducible refine BrG.t ?_ | with_reducible refine BrG.f ?_ | with_reducible refine BrG.notG ?_ | with_reducible refine BrG.nn ?_ | with_reducible refine BrG.ns ?_ | refine BrG.pos (by omega) ?_ | refine BrG.neg (by omega) ?_ | with_reducible refine BrG.pos rfl ?_ | refine BrG.pos (by assumption) ?_ | refine BrG.neg (by assumption) ?_ | refine BrG.pos (by decide) ?_ | refine BrG.neg (by decide) ?_) | refine Chk.mk (ptr_ok tblOk rfl rfl) ?_ | refine Chk.mk (by decide) ?_ | refine hS.ldC rfl ?_ | refine hS.ldnC rfl ?_)
            repeat (first | refine SemW.run tblOk ?_ | refine IntG.nw (by omega) ?_ | refine IntG.nu8 (by omega) ?_ | refine IntG.nu32 (by omega) ?_ | refine IntG.nu64 (by omega) ?_ | refine IntG.wr' rfl ?_ | refine Chk.mk (by omega) ?_ | (refine BrG.id ?_; first | with_reducible refine BrG.t ?_ | with_reducible refine BrG.f ?_ | with_reducible refine BrG.notG ?_ | with_reducible refine BrG.nn ?_ | with_reducible refine BrG.ns ?_ | refine BrG.pos (by omega) ?_ | refine BrG.neg (by omega) ?_ | with_reducible refine BrG.pos rfl ?_ | refine BrG.pos (by assumption) ?_ | refine BrG.neg (by assumption) ?_ | refine BrG.pos (by decide) ?_ | refine BrG.neg (by decide) ?_) | refine Chk.mk (ptr_ok tblOk rfl rfl) ?_ | refine Chk.mk (by decide) ?_)
            exact ⟨rfl, hS⟩
end Go.Proofs.YtkncpdehgcldbaaDoor
