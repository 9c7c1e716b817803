/- Texts of this claim, one behind the other. -/
import Derived.Test.YthpmmfapolcaiaaDoorZ1
import Derived.Test.YthpmmfapolcaiaaDoorZ0
import Derived.Lib.UnsafeStr
import Derived.Lib.Builder
import Derived.Test.YthpmmfapolcaiaaDoorZ3
/- Package frame: four, number, Sum. -/
namespace Go.Proofs.YthpmmfapolcaiaaDoor
open Go Go.Eng Go.Proofs

/-- The four bytes of a number. -/
def be4 (n : Nat) : List UInt8 := [UInt8.ofNat (n / 2 ^ 24), UInt8.ofNat (n / 2 ^ 16), UInt8.ofNat (n / 2 ^ 8), UInt8.ofNat n]

theorem four_spec {w : World} (n : Nat) : Cl Tryd.prog f_frame_four [.int .u32 n] w fun v w' => v = Str (be4 n) ∧ St w [] [] w' := by
  have hS := St.start w
  refine en_frame_four rfl ?_
  repeat (first | refine SemW.run tblOk ?_ | refine IntG.nw (by omega) ?_ | refine IntG.nu8 (by omega) ?_ | refine IntG.nu32 (by omega) ?_ | refine IntG.nu64 (by omega) ?_ | refine IntG.wr' rfl ?_ | refine Chk.mk (by omega) ?_ | (refine BrG.id ?_; first | with_reducible refine BrG.t ?_ | with_reducible refine BrG.f ?_ | with_reducible refine BrG.notG ?_ | with_reducible refine BrG.nn ?_ | with_reducible refine BrG.ns ?_ | refine BrG.pos (by omega) ?_ | refine BrG.neg (by omega) ?_ | with_reducible refine BrG.pos rfl ?_ | refine BrG.pos (by assumption) ?_ | refine BrG.neg (by assumption) ?_ | refine BrG.pos (by decide) ?_ | refine BrG.neg (by decide) ?_) | refine Chk.mk (ptr_ok tblOk rfl rfl) ?_ | refine NilG.mk (fun _ => by kernel_rfl) ?_ | refine Chk.mk (by decide) ?_)
  refine hS.al ?_
  intro b w1 hb hS
  refine toStr (bs := be4 n) tblOk rfl rfl rfl rfl rfl rfl rfl (T := []) (fun w' e => ?_) ?_
  · subst e
    have e1 : (be4 n).map byteV = [.int .u8 (IntKind.u8.wrap ((n : Int).fdiv (2 ^ 24))), .int .u8 (IntKind.u8.wrap ((n : Int).fdiv (2 ^ 16))), .int .u8 (IntKind.u8.wrap ((n : Int).fdiv (2 ^ 8))), .int .u8 (IntKind.u8.wrap (n : Int))] := by
      simp only [be4, List.map_cons, List.map_nil, byteV]
      rw [← u8wrap, ← u8wrap, ← u8wrap, ← u8wrap, ← fdivP, ← fdivP, ← fdivP]
    rw [e1]; exact hS.arr (by simp)
  · repeat (first | refine SemW.run tblOk ?_ | refine IntG.nw (by omega) ?_ | refine IntG.nu8 (by omega) ?_ | refine IntG.nu32 (by omega) ?_ | refine IntG.nu64 (by omega) ?_ | refine IntG.wr' rfl ?_ | refine Chk.mk (by omega) ?_ | (refine BrG.id ?_; first | with_reducible refine BrG.t ?_ | with_reducible refine BrG.f ?_ | with_reducible refine BrG.notG ?_ | with_reducible refine BrG.nn ?_ | with_reducible refine BrG.ns ?_ | refine BrG.pos (by omega) ?_ | refine BrG.neg (by omega) ?_ | with_reducible refine BrG.pos rfl ?_ | refine BrG.pos (by assumption) ?_ | refine BrG.neg (by assumption) ?_ | refine BrG.pos (by decide) ?_ | refine BrG.neg (by decide) ?_) | refine Chk.mk (ptr_ok tblOk rfl rfl) ?_ | refine NilG.mk (fun _ => by kernel_rfl) ?_ | refine Chk.mk (by decide) ?_)
    exact ⟨rfl, hS.nil⟩

/-- The number of four bytes. -/
def num4 (l : List UInt8) : Nat := ((l.getD 0 0).toNat * 2 ^ 24 + (l.getD 1 0).toNat * 2 ^ 16) + (l.getD 2 0).toNat * 2 ^ 8 + (l.getD 3 0).toNat
theorem num4_lt (l : List UInt8) : num4 l < 4294967296 := by
  have h0 := (l.getD 0 0).toNat_lt
  have h1 := (l.getD 1 0).toNat_lt
  have h2 := (l.getD 2 0).toNat_lt
  have h3 := (l.getD 3 0).toNat_lt
  unfold num4; omega
theorem num4_be4 (n : Nat) (hn : n < 4294967296) : num4 (be4 n) = n := by
  simp only [num4, be4, List.getD_eq_getElem?_getD]
  simp [UInt8.toNat_ofNat']
  omega

theorem u32wrap (n : Nat) (h : n < 4294967296) : IntKind.u32.wrap (n : Int) = (n : Int) := by
  rw [wrapU .u32 rfl]; congr 1; exact Nat.mod_eq_of_lt h
theorem num4_eq (l : List UInt8) : orI .u32 (orI .u32 (orI .u32 (IntKind.u32.wrap (IntKind.u32.wrap ((l.getD 0 0).toNat : Int) * 2 ^ 24)) (IntKind.u32.wrap (IntKind.u32.wrap ((l.getD 1 0).toNat : Int) * 2 ^ 16)))
    (IntKind.u32.wrap (IntKind.u32.wrap ((l.getD 2 0).toNat : Int) * 2 ^ 8))) (IntKind.u32.wrap ((l.getD 3 0).toNat : Int)) = (num4 l : Int) := by
  have h0 := (l.getD 0 0).toNat_lt
  have h1 := (l.getD 1 0).toNat_lt
  have h2 := (l.getD 2 0).toNat_lt
  have h3 := (l.getD 3 0).toNat_lt
  unfold num4
  generalize (l.getD 0 0).toNat = a at *
  generalize (l.getD 1 0).toNat = b at *
  generalize (l.getD 2 0).toNat = c at *
  generalize (l.getD 3 0).toNat = d at *
  rw [u32wrap a (by omega), u32wrap b (by omega), u32wrap c (by omega), u32wrap d (by omega)]
  rw [show (a : Int) * 2 ^ 24 = ((a * 2 ^ 24 : Nat) : Int) by simp, show (b : Int) * 2 ^ 16 = ((b * 2 ^ 16 : Nat) : Int) by simp, show (c : Int) * 2 ^ 8 = ((c * 2 ^ 8 : Nat) : Int) by simp]
  rw [u32wrap _ (by omega), u32wrap _ (by omega), u32wrap _ (by omega)]
  rw [orU .u32 rfl _ _ (by show _ < 2 ^ 32; omega) (by show _ < 2 ^ 32; omega), or_add a (b * 2 ^ 16) 24 (by omega)]
  rw [orU .u32 rfl _ _ (by show _ < 2 ^ 32; omega) (by show _ < 2 ^ 32; omega), show a * 2 ^ 24 + b * 2 ^ 16 = (a * 2 ^ 8 + b) * 2 ^ 16 by omega, or_add _ (c * 2 ^ 8) 16 (by omega)]
  rw [orU .u32 rfl _ _ (by show _ < 2 ^ 32; omega) (by show _ < 2 ^ 32; omega), show (a * 2 ^ 8 + b) * 2 ^ 16 + c * 2 ^ 8 = ((a * 2 ^ 8 + b) * 2 ^ 8 + c) * 2 ^ 8 by omega, or_add _ d 8 (by omega)]

theorem number_spec {w : World} (l : List UInt8) (hl : 4 ≤ l.length) : Cl Tryd.prog f_frame_number [Str l] w fun v w' => v = .int .u32 (num4 l) ∧ St w [] [] w' := by
  have hS := St.start w
  refine en_frame_number rfl ?_
  repeat (first | refine SemW.run tblOk ?_ | refine IntG.nw (by omega) ?_ | refine IntG.nu8 (by omega) ?_ | refine IntG.nu32 (by omega) ?_ | refine IntG.nu64 (by omega) ?_ | refine IntG.wr' rfl ?_ | refine Chk.mk (by omega) ?_ | (refine BrG.id ?_; first | with_reducible refine BrG.t ?_ | with_reducible refine BrG.f ?_ | with_reducible refine BrG.notG ?_ | with_reducible refine BrG.nn ?_ | with_reducible refine BrG.ns ?_ | refine BrG.pos (by omega) ?_ | refine BrG.neg (by omega) ?_ | with_reducible refine BrG.pos rfl ?_ | refine BrG.pos (by assumption) ?_ | refine BrG.neg (by assumption) ?_ | refine BrG.pos (by decide) ?_ | refine BrG.neg (by decide) ?_) | refine Chk.mk (ptr_ok tblOk rfl rfl) ?_ | refine NilG.mk (fun _ => by kernel_rfl) ?_ | refine Chk.mk (by decide) ?_)
  refine SemW.draw tblOk mixed (fun _ => True) [] [0, 1, 2, 3, 4, 5, 6, 7, 8, 9, 10, 11, 12, 13, 14, 15, 16, 17, 18] (by kernel_rfl) trivial ?_
  repeat (first | refine SemW.run tblOk ?_ | refine IntG.nw (by omega) ?_ | refine IntG.nu8 (by omega) ?_ | refine IntG.nu32 (by omega) ?_ | refine IntG.nu64 (by omega) ?_ | refine IntG.wr' rfl ?_ | refine Chk.mk (by omega) ?_ | (refine BrG.id ?_; first | with_reducible refine BrG.t ?_ | with_reducible refine BrG.f ?_ | with_reducible refine BrG.notG ?_ | with_reducible refine BrG.nn ?_ | with_reducible refine BrG.ns ?_ | refine BrG.pos (by omega) ?_ | refine BrG.neg (by omega) ?_ | with_reducible refine BrG.pos rfl ?_ | refine BrG.pos (by assumption) ?_ | refine BrG.neg (by assumption) ?_ | refine BrG.pos (by decide) ?_ | refine BrG.neg (by decide) ?_) | refine Chk.mk (ptr_ok tblOk rfl rfl) ?_ | refine NilG.mk (fun _ => by kernel_rfl) ?_ | refine Chk.mk (by decide) ?_)
  exact ⟨congrArg (Value.int .u32) (num4_eq l), hS.drew⟩
def crcBit (reg : Int) : Int := xorI .u32 (reg.fdiv (2 ^ (min (1 : Int).toNat 32))) (andI .u32 3988292384 (IntKind.u32.wrap (0 - andI .u32 reg 1)))
def crcBits : Nat → Int → Int
  | 0, r => r
  | n + 1, r => crcBit (crcBits n r)
def crcByte (reg : Int) (c : UInt8) : Int := crcBits 8 (xorI .u32 reg (IntKind.u32.wrap c.toNat))
def crcs (reg : Int) (p : List UInt8) : Int := p.foldl crcByte reg
def crc (parts : List (List UInt8)) : Int := xorI .u32 (if IntKind.u32.signed then -1 else IntKind.u32.max) (parts.foldl crcs 4294967295)

theorem wrapU_range (k : IntKind) (hs : k.signed = false) (z : Int) : ∃ n : Nat, k.wrap z = (n : Int) ∧ n < 2 ^ k.bits := by
  have h1 : k.wrap z = z % ((2 ^ k.bits : Nat) : Int) := by unfold IntKind.wrap; simp only [hs]; simp
  have hp : (0 : Int) < ((2 ^ k.bits : Nat) : Int) := by have := Nat.two_pow_pos k.bits; omega
  have h2 := Int.emod_nonneg z (Int.ne_of_gt hp)
  have h3 := Int.emod_lt_of_pos z hp
  exact ⟨(z % ((2 ^ k.bits : Nat) : Int)).toNat, by rw [h1]; omega, by omega⟩
def crcN (parts : List (List UInt8)) : Nat := (crc parts).toNat
theorem crcN_eq (parts : List (List UInt8)) : crc parts = (crcN parts : Int) ∧ crcN parts < 4294967296 := by
  obtain ⟨n, h1, h2⟩ := wrapU_range .u32 rfl ((BitVec.ofInt IntKind.u32.bits (if IntKind.u32.signed then -1 else IntKind.u32.max) ^^^ BitVec.ofInt IntKind.u32.bits (parts.foldl crcs 4294967295)).toNat)
  have h3 : crc parts = n := h1
  have h4 : n < 4294967296 := h2
  unfold crcN
  rw [h3]; exact ⟨by simp, by simpa using h4⟩
theorem crcs_succ (r : Int) (p : List UInt8) (j : Nat) (hj : j < p.length) : crcs r (p.take (j + 1)) = crcByte (crcs r (p.take j)) (p.getD j 0) := by
  unfold crcs; rw [List.take_succ_eq_append_getElem hj, List.foldl_append]; simp [hj]
theorem foldl_succ (r : Int) (ps : List (List UInt8)) (k : Nat) (hk : k < ps.length) : (ps.take (k + 1)).foldl crcs r = crcs ((ps.take k).foldl crcs r) ps[k] := by
  rw [List.take_succ_eq_append_getElem hk, List.foldl_append]; rfl

set_option maxHeartbeats 400000 in
theorem Sum_spec {w : World} {a : Option Addr} {cap : Nat} {ps : List (List UInt8)} (hb : ps.length ≤ 9000000000000000000) (hl : ∀ p ∈ ps, p.length ≤ 9000000000000000000)
    (ha : Arr w [] a (ps.map Str)) : Cl Tryd.prog f_frame_Sum [.slice a ps.length cap] w fun v w' => v = .int .u32 (crcN ps) ∧ St w [] [] w' := by
  rw [← (crcN_eq ps).1]
  refine en_frame_Sum rfl ?_
  repeat (first | refine SemW.run tblOk ?_ | refine IntG.nw (by omega) ?_ | refine IntG.nu8 (by omega) ?_ | refine IntG.nu32 (by omega) ?_ | refine IntG.nu64 (by omega) ?_ | refine IntG.wr' rfl ?_ | refine Chk.mk (by omega) ?_ | (refine BrG.id ?_; first | with_reducible refine BrG.t ?_ | with_reducible refine BrG.f ?_ | with_reducible refine BrG.notG ?_ | with_reducible refine BrG.nn ?_ | with_reducible refine BrG.ns ?_ | refine BrG.pos (by omega) ?_ | refine BrG.neg (by omega) ?_ | with_reducible refine BrG.pos rfl ?_ | refine BrG.pos (by assumption) ?_ | refine BrG.neg (by assumption) ?_ | refine BrG.pos (by decide) ?_ | refine BrG.neg (by decide) ?_) | refine Chk.mk (ptr_ok tblOk rfl rfl) ?_ | refine NilG.mk (fun _ => by kernel_rfl) ?_ | refine Chk.mk (by decide) ?_)
  refine SemW.loop (fun k : Nat => [(7, .slice a ps.length cap), (8, .int .i64 ps.length), (9, .int .i64 k), (3, .int .u32 ((ps.take k).foldl crcs 4294967295))]) (fun k w' => k ≤ ps.length ∧ w' = w) (fun k => ps.length - k) 0
    ⟨rfl, rfl, rfl, rfl, trivial⟩ ⟨Nat.zero_le _, rfl⟩ ?_
  rintro k w' ⟨hk, rfl⟩
  repeat (first | refine SemW.run tblOk ?_ | refine IntG.nw (by omega) ?_ | refine IntG.nu8 (by omega) ?_ | refine IntG.nu32 (by omega) ?_ | refine IntG.nu64 (by omega) ?_ | refine IntG.wr' rfl ?_ | refine Chk.mk (by omega) ?_ | (refine BrG.id ?_; first | with_reducible refine BrG.t ?_ | with_reducible refine BrG.f ?_ | with_reducible refine BrG.notG ?_ | with_reducible refine BrG.nn ?_ | with_reducible refine BrG.ns ?_ | refine BrG.pos (by omega) ?_ | refine BrG.neg (by omega) ?_ | with_reducible refine BrG.pos rfl ?_ | refine BrG.pos (by assumption) ?_ | refine BrG.neg (by assumption) ?_ | refine BrG.pos (by decide) ?_ | refine BrG.neg (by decide) ?_) | refine Chk.mk (ptr_ok tblOk rfl rfl) ?_ | refine NilG.mk (fun _ => by kernel_rfl) ?_ | refine Chk.mk (by decide) ?_)
  refine BrG.dec (fun h => ?_) (fun h => ?_)
  · have hk' : k < ps.length := by omega
    obtain ⟨b, off, rfl, -, hc⟩ := ha k (Str ps[k]) (by simp [hk'])
    repeat (first | refine SemW.run tblOk ?_ | refine IntG.nw (by omega) ?_ | refine IntG.nu8 (by omega) ?_ | refine IntG.nu32 (by omega) ?_ | refine IntG.nu64 (by omega) ?_ | refine IntG.wr' rfl ?_ | refine Chk.mk (by omega) ?_ | (refine BrG.id ?_; first | with_reducible refine BrG.t ?_ | with_reducible refine BrG.f ?_ | with_reducible refine BrG.notG ?_ | with_reducible refine BrG.nn ?_ | with_reducible refine BrG.ns ?_ | refine BrG.pos (by omega) ?_ | refine BrG.neg (by omega) ?_ | with_reducible refine BrG.pos rfl ?_ | refine BrG.pos (by assumption) ?_ | refine BrG.neg (by assumption) ?_ | refine BrG.pos (by decide) ?_ | refine BrG.neg (by decide) ?_) | refine Chk.mk (ptr_ok tblOk rfl rfl) ?_ | refine NilG.mk (fun _ => by kernel_rfl) ?_ | refine Chk.mk (by decide) ?_)
    refine LdC.mk ⟨_, fun _ e => by subst e; simpa using hc, ?_⟩
    repeat (first | refine SemW.run tblOk ?_ | refine IntG.nw (by omega) ?_ | refine IntG.nu8 (by omega) ?_ | refine IntG.nu32 (by omega) ?_ | refine IntG.nu64 (by omega) ?_ | refine IntG.wr' rfl ?_ | refine Chk.mk (by omega) ?_ | (refine BrG.id ?_; first | with_reducible refine BrG.t ?_ | with_reducible refine BrG.f ?_ | with_reducible refine BrG.notG ?_ | with_reducible refine BrG.nn ?_ | with_reducible refine BrG.ns ?_ | refine BrG.pos (by omega) ?_ | refine BrG.neg (by omega) ?_ | with_reducible refine BrG.pos rfl ?_ | refine BrG.pos (by assumption) ?_ | refine BrG.neg (by assumption) ?_ | refine BrG.pos (by decide) ?_ | refine BrG.neg (by decide) ?_) | refine Chk.mk (ptr_ok tblOk rfl rfl) ?_ | refine NilG.mk (fun _ => by kernel_rfl) ?_ | refine Chk.mk (by decide) ?_)
    have hpl := hl ps[k] (by simp)
    refine SemW.loop (fun j : Nat => [(7, .slice (some ⟨b, off, none⟩) ps.length cap), (8, .int .i64 ps.length), (9, .int .i64 k), (5, Str ps[k]), (14, .int .i64 ps[k].length), (15, .int .i64 j), (3, .int .u32 (crcs ((ps.take k).foldl crcs 4294967295) (ps[k].take j)))]) (fun j w'' => j ≤ ps[k].length ∧ w'' = w') (fun j => ps[k].length - j) 0
      ⟨rfl, rfl, rfl, rfl, rfl, rfl, rfl, trivial⟩ ⟨Nat.zero_le _, rfl⟩ ?_
    rintro j w'' ⟨hj, rfl⟩
    repeat (first | refine SemW.run tblOk ?_ | refine IntG.nw (by omega) ?_ | refine IntG.nu8 (by omega) ?_ | refine IntG.nu32 (by omega) ?_ | refine IntG.nu64 (by omega) ?_ | refine IntG.wr' rfl ?_ | refine Chk.mk (by omega) ?_ | (refine BrG.id ?_; first | with_reducible refine BrG.t ?_ | with_reducible refine BrG.f ?_ | with_reducible refine BrG.notG ?_ | with_reducible refine BrG.nn ?_ | with_reducible refine BrG.ns ?_ | refine BrG.pos (by omega) ?_ | refine BrG.neg (by omega) ?_ | with_reducible refine BrG.pos rfl ?_ | refine BrG.pos (by assumption) ?_ | refine BrG.neg (by assumption) ?_ | refine BrG.pos (by decide) ?_ | refine BrG.neg (by decide) ?_) | refine Chk.mk (ptr_ok tblOk rfl rfl) ?_ | refine NilG.mk (fun _ => by kernel_rfl) ?_ | refine Chk.mk (by decide) ?_)
    refine BrG.dec (fun h => ?_) (fun h => ?_)
    · have hj' : j < ps[k].length := by omega
      repeat (first | refine SemW.run tblOk ?_ | refine IntG.nw (by omega) ?_ | refine IntG.nu8 (by omega) ?_ | refine IntG.nu32 (by omega) ?_ | refine IntG.nu64 (by omega) ?_ | refine IntG.wr' rfl ?_ | refine Chk.mk (by omega) ?_ | (refine BrG.id ?_; first | with_reducible refine BrG.t ?_ | with_reducible refine BrG.f ?_ | with_reducible refine BrG.notG ?_ | with_reducible refine BrG.nn ?_ | with_reducible refine BrG.ns ?_ | refine BrG.pos (by omega) ?_ | refine BrG.neg (by omega) ?_ | with_reducible refine BrG.pos rfl ?_ | refine BrG.pos (by assumption) ?_ | refine BrG.neg (by assumption) ?_ | refine BrG.pos (by decide) ?_ | refine BrG.neg (by decide) ?_) | refine Chk.mk (ptr_ok tblOk rfl rfl) ?_ | refine NilG.mk (fun _ => by kernel_rfl) ?_ | refine Chk.mk (by decide) ?_)
      refine SemW.loop (fun i : Nat => [(7, .slice (some ⟨b, off, none⟩) ps.length cap), (8, .int .i64 ps.length), (9, .int .i64 k), (5, Str ps[k]), (14, .int .i64 ps[k].length), (15, .int .i64 j), (24, .int .i64 i), (3, .int .u32 (crcBits i (xorI .u32 (crcs ((ps.take k).foldl crcs 4294967295) (ps[k].take j)) (IntKind.u32.wrap (ps[k].getD j 0).toNat))))]) (fun i w3 => i ≤ 8 ∧ w3 = w'') (fun i => 8 - i) 0
        ⟨rfl, rfl, rfl, rfl, rfl, rfl, rfl, rfl, trivial⟩ ⟨Nat.zero_le _, rfl⟩ ?_
      rintro i w3 ⟨hi, rfl⟩
      repeat (first | refine SemW.run tblOk ?_ | refine IntG.nw (by omega) ?_ | refine IntG.nu8 (by omega) ?_ | refine IntG.nu32 (by omega) ?_ | refine IntG.nu64 (by omega) ?_ | refine IntG.wr' rfl ?_ | refine Chk.mk (by omega) ?_ | (refine BrG.id ?_; first | with_reducible refine BrG.t ?_ | with_reducible refine BrG.f ?_ | with_reducible refine BrG.notG ?_ | with_reducible refine BrG.nn ?_ | with_reducible refine BrG.ns ?_ | refine BrG.pos (by omega) ?_ | refine BrG.neg (by omega) ?_ | with_reducible refine BrG.pos rfl ?_ | refine BrG.pos (by assumption) ?_ | refine BrG.neg (by assumption) ?_ | refine BrG.pos (by decide) ?_ | refine BrG.neg (by decide) ?_) | refine Chk.mk (ptr_ok tblOk rfl rfl) ?_ | refine NilG.mk (fun _ => by kernel_rfl) ?_ | refine Chk.mk (by decide) ?_)
      refine BrG.dec (fun h => ?_) (fun h => ?_)
      · repeat (first | refine SemW.run tblOk ?_ | refine IntG.nw (by omega) ?_ | refine IntG.nu8 (by omega) ?_ | refine IntG.nu32 (by omega) ?_ | refine IntG.nu64 (by omega) ?_ | refine IntG.wr' rfl ?_ | refine Chk.mk (by omega) ?_ | (refine BrG.id ?_; first | with_reducible refine BrG.t ?_ | with_reducible refine BrG.f ?_ | with_reducible refine BrG.notG ?_ | with_reducible refine BrG.nn ?_ | with_reducible refine BrG.ns ?_ | refine BrG.pos (by omega) ?_ | refine BrG.neg (by omega) ?_ | with_reducible refine BrG.pos rfl ?_ | refine BrG.pos (by assumption) ?_ | refine BrG.neg (by assumption) ?_ | refine BrG.pos (by decide) ?_ | refine BrG.neg (by decide) ?_) | refine Chk.mk (ptr_ok tblOk rfl rfl) ?_ | refine NilG.mk (fun _ => by kernel_rfl) ?_ | refine Chk.mk (by decide) ?_)
        refine ⟨i + 1, ⟨rfl, rfl, rfl, rfl, rfl, rfl, rfl, rfl, trivial⟩, ⟨by omega, rfl⟩, by omega⟩
      · have : i = 8 := by omega
        subst this
        repeat (first | refine SemW.run tblOk ?_ | refine IntG.nw (by omega) ?_ | refine IntG.nu8 (by omega) ?_ | refine IntG.nu32 (by omega) ?_ | refine IntG.nu64 (by omega) ?_ | refine IntG.wr' rfl ?_ | refine Chk.mk (by omega) ?_ | (refine BrG.id ?_; first | with_reducible refine BrG.t ?_ | with_reducible refine BrG.f ?_ | with_reducible refine BrG.notG ?_ | with_reducible refine BrG.nn ?_ | with_reducible refine BrG.ns ?_ | refine BrG.pos (by omega) ?_ | refine BrG.neg (by omega) ?_ | with_reducible refine BrG.pos rfl ?_ | refine BrG.pos (by assumption) ?_ | refine BrG.neg (by assumption) ?_ | refine BrG.pos (by decide) ?_ | refine BrG.neg (by decide) ?_) | refine Chk.mk (ptr_ok tblOk rfl rfl) ?_ | refine NilG.mk (fun _ => by kernel_rfl) ?_ | refine Chk.mk (by decide) ?_)
        refine ⟨j + 1, ⟨rfl, rfl, rfl, rfl, rfl, rfl, ?_, trivial⟩, ⟨by omega, rfl⟩, by omega⟩
        show _ = (_ : Value)
        rw [crcs_succ _ _ _ hj']
        rfl
    · have : j = ps[k].length := by omega
      subst this
      repeat (first | refine SemW.run tblOk ?_ | refine IntG.nw (by omega) ?_ | refine IntG.nu8 (by omega) ?_ | refine IntG.nu32 (by omega) ?_ | refine IntG.nu64 (by omega) ?_ | refine IntG.wr' rfl ?_ | refine Chk.mk (by omega) ?_ | (refine BrG.id ?_; first | with_reducible refine BrG.t ?_ | with_reducible refine BrG.f ?_ | with_reducible refine BrG.notG ?_ | with_reducible refine BrG.nn ?_ | with_reducible refine BrG.ns ?_ | refine BrG.pos (by omega) ?_ | refine BrG.neg (by omega) ?_ | with_reducible refine BrG.pos rfl ?_ | refine BrG.pos (by assumption) ?_ | refine BrG.neg (by assumption) ?_ | refine BrG.pos (by decide) ?_ | refine BrG.neg (by decide) ?_) | refine Chk.mk (ptr_ok tblOk rfl rfl) ?_ | refine NilG.mk (fun _ => by kernel_rfl) ?_ | refine Chk.mk (by decide) ?_)
      refine ⟨k + 1, ⟨rfl, rfl, rfl, ?_, trivial⟩, ⟨by omega, rfl⟩, by omega⟩
      show _ = (_ : Value)
      rw [foldl_succ _ _ _ hk', List.take_length]
  · have : k = ps.length := by omega
    subst this
    repeat (first | refine SemW.run tblOk ?_ | refine IntG.nw (by omega) ?_ | refine IntG.nu8 (by omega) ?_ | refine IntG.nu32 (by omega) ?_ | refine IntG.nu64 (by omega) ?_ | refine IntG.wr' rfl ?_ | refine Chk.mk (by omega) ?_ | (refine BrG.id ?_; first | with_reducible refine BrG.t ?_ | with_reducible refine BrG.f ?_ | with_reducible refine BrG.notG ?_ | with_reducible refine BrG.nn ?_ | with_reducible refine BrG.ns ?_ | refine BrG.pos (by omega) ?_ | refine BrG.neg (by omega) ?_ | with_reducible refine BrG.pos rfl ?_ | refine BrG.pos (by assumption) ?_ | refine BrG.neg (by assumption) ?_ | refine BrG.pos (by decide) ?_ | refine BrG.neg (by decide) ?_) | refine Chk.mk (ptr_ok tblOk rfl rfl) ?_ | refine NilG.mk (fun _ => by kernel_rfl) ?_ | refine Chk.mk (by decide) ?_)
    rw [List.take_length]
    exact ⟨rfl, St.start _⟩

def frameB (p : List UInt8) : List UInt8 := be4 p.length ++ be4 (crcN [be4 p.length, p]) ++ p
def sealB (ps : List (List UInt8)) : List UInt8 := (ps.map frameB).flatten
theorem frameB_len (p : List UInt8) : (frameB p).length = p.length + 8 := by simp [frameB, be4]
theorem sealB_len (ps : List (List UInt8)) : (sealB ps).length = sumLen ps + 8 * ps.length := by
  induction ps with
  | nil => rfl
  | cons p r ih => simp only [sealB, sumLen, List.map_cons, List.flatten_cons, List.length_append, List.sum_cons, List.length_cons, frameB_len] at ih ⊢; omega
theorem sealB_succ (ps : List (List UInt8)) (k : Nat) (hk : k < ps.length) : sealB (ps.take (k + 1)) = sealB (ps.take k) ++ frameB ps[k] := by
  unfold sealB; rw [List.take_succ_eq_append_getElem hk, List.map_append, List.flatten_append]; simp
def okLens (ps : List (List UInt8)) : Bool := ps.all fun p => decide (p.length ≤ 65536)

end Go.Proofs.YthpmmfapolcaiaaDoor

/- Package frame: First. -/
namespace Go.Proofs.YthpmmfapolcaiaaDoor
open Go Go.Eng Go.Proofs

/-- First: the payload of the frame at a place, the place behind it, the error. -/
def firstM (t : List UInt8) (k : Nat) : List UInt8 × Nat × Int :=
  if t.length < k + 8 then ([], 0, 1)
  else if 65536 < num4 (t.drop k) ∨ (t.drop k).length < num4 (t.drop k) + 8 then ([], 0, 1)
  else if crcN [(t.drop k).take 4, ((t.drop k).take (8 + num4 (t.drop k))).drop 8] = num4 ((t.drop k).drop 4) then (((t.drop k).take (8 + num4 (t.drop k))).drop 8, k + 8 + num4 (t.drop k), 0)
  else ([], 0, 1)

set_option maxHeartbeats 1000000 in
theorem First_spec {w : World} (t : List UInt8) (k : Nat) (ht : t.length ≤ 140737488355328) (hk : k ≤ t.length) :
    Cl Tryd.prog f_frame_First [Str t, .int .i64 k] w fun v w' => v = .tuple ⟨[Str (firstM t k).1, .int .i64 (firstM t k).2.1, .int .i64 (firstM t k).2.2]⟩ ∧ St w [] [] w' := by
  have hS := St.start w
  refine en_frame_First rfl ?_
  unfold firstM
  by_cases h1 : t.length < k + 8
  · rw [if_pos h1]
    repeat (first | refine SemW.run tblOk ?_ | refine IntG.nw (by omega) ?_ | refine IntG.nu8 (by omega) ?_ | refine IntG.nu32 (by omega) ?_ | refine IntG.nu64 (by omega) ?_ | refine IntG.wr' rfl ?_ | refine Chk.mk (by omega) ?_ | (refine BrG.id ?_; first | with_reducible refine BrG.t ?_ | with_reducible refine BrG.f ?_ | with_reducible refine BrG.notG ?_ | with_reducible refine BrG.nn ?_ | with_reducible refine BrG.ns ?_ | refine BrG.pos (by omega) ?_ | refine BrG.neg (by omega) ?_ | with_reducible refine BrG.pos rfl ?_ | refine BrG.pos (by assumption) ?_ | refine BrG.neg (by assumption) ?_ | refine BrG.pos (by decide) ?_ | refine BrG.neg (by decide) ?_) | refine Chk.mk (ptr_ok tblOk rfl rfl) ?_ | refine NilG.mk (fun _ => by kernel_rfl) ?_ | refine Chk.mk (by decide) ?_)
    exact ⟨rfl, hS⟩
  · rw [if_neg h1]
    repeat (first | refine SemW.run tblOk ?_ | refine IntG.nw (by omega) ?_ | refine IntG.nu8 (by omega) ?_ | refine IntG.nu32 (by omega) ?_ | refine IntG.nu64 (by omega) ?_ | refine IntG.wr' rfl ?_ | refine Chk.mk (by omega) ?_ | (refine BrG.id ?_; first | with_reducible refine BrG.t ?_ | with_reducible refine BrG.f ?_ | with_reducible refine BrG.notG ?_ | with_reducible refine BrG.nn ?_ | with_reducible refine BrG.ns ?_ | refine BrG.pos (by omega) ?_ | refine BrG.neg (by omega) ?_ | with_reducible refine BrG.pos rfl ?_ | refine BrG.pos (by assumption) ?_ | refine BrG.neg (by assumption) ?_ | refine BrG.pos (by decide) ?_ | refine BrG.neg (by decide) ?_) | refine Chk.mk (ptr_ok tblOk rfl rfl) ?_ | refine NilG.mk (fun _ => by kernel_rfl) ?_ | refine Chk.mk (by decide) ?_)
    refine (number_spec (t.drop k) (by simp; omega)).mono ?_
    rintro _ w1 ⟨rfl, hS'⟩
    have hS := hS.call0 hS'
    have hrl : (t.drop k).length = t.length - k := by simp
    rw [show List.drop (k : Int).toNat t = t.drop k from rfl]
    generalize t.drop k = rest at hrl ⊢
    have hn := num4_lt rest
    generalize num4 rest = n at hn ⊢
    by_cases h2 : 65536 < n
    · rw [if_pos (.inl h2)]
      repeat (first | refine SemW.run tblOk ?_ | refine IntG.nw (by omega) ?_ | refine IntG.nu8 (by omega) ?_ | refine IntG.nu32 (by omega) ?_ | refine IntG.nu64 (by omega) ?_ | refine IntG.wr' rfl ?_ | refine Chk.mk (by omega) ?_ | (refine BrG.id ?_; first | with_reducible refine BrG.t ?_ | with_reducible refine BrG.f ?_ | with_reducible refine BrG.notG ?_ | with_reducible refine BrG.nn ?_ | with_reducible refine BrG.ns ?_ | refine BrG.pos (by omega) ?_ | refine BrG.neg (by omega) ?_ | with_reducible refine BrG.pos rfl ?_ | refine BrG.pos (by assumption) ?_ | refine BrG.neg (by assumption) ?_ | refine BrG.pos (by decide) ?_ | refine BrG.neg (by decide) ?_) | refine Chk.mk (ptr_ok tblOk rfl rfl) ?_ | refine NilG.mk (fun _ => by kernel_rfl) ?_ | refine Chk.mk (by decide) ?_)
      exact ⟨rfl, hS⟩
    · repeat (first | refine SemW.run tblOk ?_ | refine IntG.nw (by omega) ?_ | refine IntG.nu8 (by omega) ?_ | refine IntG.nu32 (by omega) ?_ | refine IntG.nu64 (by omega) ?_ | refine IntG.wr' rfl ?_ | refine Chk.mk (by omega) ?_ | (refine BrG.id ?_; first | with_reducible refine BrG.t ?_ | with_reducible refine BrG.f ?_ | with_reducible refine BrG.notG ?_ | with_reducible refine BrG.nn ?_ | with_reducible refine BrG.ns ?_ | refine BrG.pos (by omega) ?_ | refine BrG.neg (by omega) ?_ | with_reducible refine BrG.pos rfl ?_ | refine BrG.pos (by assumption) ?_ | refine BrG.neg (by assumption) ?_ | refine BrG.pos (by decide) ?_ | refine BrG.neg (by decide) ?_) | refine Chk.mk (ptr_ok tblOk rfl rfl) ?_ | refine NilG.mk (fun _ => by kernel_rfl) ?_ | refine Chk.mk (by decide) ?_)
      by_cases h3 : rest.length < n + 8
      · rw [if_pos (.inr h3)]
        repeat (first | refine SemW.run tblOk ?_ | refine IntG.nw (by omega) ?_ | refine IntG.nu8 (by omega) ?_ | refine IntG.nu32 (by omega) ?_ | refine IntG.nu64 (by omega) ?_ | refine IntG.wr' rfl ?_ | refine Chk.mk (by omega) ?_ | (refine BrG.id ?_; first | with_reducible refine BrG.t ?_ | with_reducible refine BrG.f ?_ | with_reducible refine BrG.notG ?_ | with_reducible refine BrG.nn ?_ | with_reducible refine BrG.ns ?_ | refine BrG.pos (by omega) ?_ | refine BrG.neg (by omega) ?_ | with_reducible refine BrG.pos rfl ?_ | refine BrG.pos (by assumption) ?_ | refine BrG.neg (by assumption) ?_ | refine BrG.pos (by decide) ?_ | refine BrG.neg (by decide) ?_) | refine Chk.mk (ptr_ok tblOk rfl rfl) ?_ | refine NilG.mk (fun _ => by kernel_rfl) ?_ | refine Chk.mk (by decide) ?_)
        exact ⟨rfl, hS⟩
      · rw [if_neg (by omega)]
        repeat (first | refine SemW.run tblOk ?_ | refine IntG.nw (by omega) ?_ | refine IntG.nu8 (by omega) ?_ | refine IntG.nu32 (by omega) ?_ | refine IntG.nu64 (by omega) ?_ | refine IntG.wr' rfl ?_ | refine Chk.mk (by omega) ?_ | (refine BrG.id ?_; first | with_reducible refine BrG.t ?_ | with_reducible refine BrG.f ?_ | with_reducible refine BrG.notG ?_ | with_reducible refine BrG.nn ?_ | with_reducible refine BrG.ns ?_ | refine BrG.pos (by omega) ?_ | refine BrG.neg (by omega) ?_ | with_reducible refine BrG.pos rfl ?_ | refine BrG.pos (by assumption) ?_ | refine BrG.neg (by assumption) ?_ | refine BrG.pos (by decide) ?_ | refine BrG.neg (by decide) ?_) | refine Chk.mk (ptr_ok tblOk rfl rfl) ?_ | refine NilG.mk (fun _ => by kernel_rfl) ?_ | refine Chk.mk (by decide) ?_)
        refine SemW.draw tblOk mixed (fun w' => St w [] [] w') [7, 8] [0, 1, 2, 5, 6, 3, 4, 7, 8] (by kernel_rfl) hS.drew ?_
        have hS := hS.drew
        repeat (first | refine SemW.run tblOk ?_ | refine IntG.nw (by omega) ?_ | refine IntG.nu8 (by omega) ?_ | refine IntG.nu32 (by omega) ?_ | refine IntG.nu64 (by omega) ?_ | refine IntG.wr' rfl ?_ | refine Chk.mk (by omega) ?_ | (refine BrG.id ?_; first | with_reducible refine BrG.t ?_ | with_reducible refine BrG.f ?_ | with_reducible refine BrG.notG ?_ | with_reducible refine BrG.nn ?_ | with_reducible refine BrG.ns ?_ | refine BrG.pos (by omega) ?_ | refine BrG.neg (by omega) ?_ | with_reducible refine BrG.pos rfl ?_ | refine BrG.pos (by assumption) ?_ | refine BrG.neg (by assumption) ?_ | refine BrG.pos (by decide) ?_ | refine BrG.neg (by decide) ?_) | refine Chk.mk (ptr_ok tblOk rfl rfl) ?_ | refine NilG.mk (fun _ => by kernel_rfl) ?_ | refine Chk.mk (by decide) ?_)
        refine hS.al ?_
        intro b2 w2 _ hS
        refine Chk.mk hS.nil ?_
        refine (Sum_spec (ps := [rest.take 4, (rest.take (8 + n)).drop 8]) (by simp) (by simp; omega) (hS.arr (b := b2) (by simp))).mono ?_
        rintro _ w3 ⟨rfl, hS'⟩
        have hS := (hS.call0 hS').nil
        refine Chk.mk hS ?_
        refine (number_spec (rest.drop 4) (by simp; omega)).mono ?_
        rintro _ w4 ⟨rfl, hS'⟩
        have hS := hS.call0 hS'
        by_cases h5 : crcN [rest.take 4, (rest.take (8 + n)).drop 8] = num4 (rest.drop 4)
        · rw [if_pos h5]
          repeat (first | refine SemW.run tblOk ?_ | refine IntG.nw (by omega) ?_ | refine IntG.nu8 (by omega) ?_ | refine IntG.nu32 (by omega) ?_ | refine IntG.nu64 (by omega) ?_ | refine IntG.wr' rfl ?_ | refine Chk.mk (by omega) ?_ | (refine BrG.id ?_; first | with_reducible refine BrG.t ?_ | with_reducible refine BrG.f ?_ | with_reducible refine BrG.notG ?_ | with_reducible refine BrG.nn ?_ | with_reducible refine BrG.ns ?_ | refine BrG.pos (by omega) ?_ | refine BrG.neg (by omega) ?_ | with_reducible refine BrG.pos rfl ?_ | refine BrG.pos (by assumption) ?_ | refine BrG.neg (by assumption) ?_ | refine BrG.pos (by decide) ?_ | refine BrG.neg (by decide) ?_) | refine Chk.mk (ptr_ok tblOk rfl rfl) ?_ | refine NilG.mk (fun _ => by kernel_rfl) ?_ | refine Chk.mk (by decide) ?_)
          exact ⟨rfl, hS⟩
        · rw [if_neg h5]
          repeat (first | refine SemW.run tblOk ?_ | refine IntG.nw (by omega) ?_ | refine IntG.nu8 (by omega) ?_ | refine IntG.nu32 (by omega) ?_ | refine IntG.nu64 (by omega) ?_ | refine IntG.wr' rfl ?_ | refine Chk.mk (by omega) ?_ | (refine BrG.id ?_; first | with_reducible refine BrG.t ?_ | with_reducible refine BrG.f ?_ | with_reducible refine BrG.notG ?_ | with_reducible refine BrG.nn ?_ | with_reducible refine BrG.ns ?_ | refine BrG.pos (by omega) ?_ | refine BrG.neg (by omega) ?_ | with_reducible refine BrG.pos rfl ?_ | refine BrG.pos (by assumption) ?_ | refine BrG.neg (by assumption) ?_ | refine BrG.pos (by decide) ?_ | refine BrG.neg (by decide) ?_) | refine Chk.mk (ptr_ok tblOk rfl rfl) ?_ | refine NilG.mk (fun _ => by kernel_rfl) ?_ | refine Chk.mk (by decide) ?_)
          exact ⟨rfl, hS⟩

/-- Scan: the payloads of the frames from the beginning on, and where they end. -/
def scanM (t : List UInt8) : Nat → Nat → List (List UInt8) × Nat
  | 0, k => ([], k)
  | fuel + 1, k => if (firstM t k).2.2 ≠ 0 then ([], k) else ((firstM t k).1 :: (scanM t fuel (firstM t k).2.1).1, (scanM t fuel (firstM t k).2.1).2)
theorem firstM_next (t : List UInt8) (k : Nat) (h : (firstM t k).2.2 = 0) : k + 8 ≤ (firstM t k).2.1 ∧ (firstM t k).2.1 ≤ t.length ∧ (firstM t k).2.1 = k + 8 + (firstM t k).1.length ∧ (firstM t k).1.length ≤ 65536 := by
  unfold firstM at h ⊢
  split at h
  · simp at h
  · rename_i h1
    rw [if_neg h1]
    split at h
    · simp at h
    · rename_i h2
      rw [if_neg h2]
      split at h
      · rename_i h3
        rw [if_pos h3]
        simp only [List.length_drop, List.length_take] at *
        omega
      · simp at h
end Go.Proofs.YthpmmfapolcaiaaDoor

/- Plain: frames found in a text. -/
namespace Go.Proofs.YthpmmfapolcaiaaDoor
open Go Go.Eng Go.Proofs
theorem num4_take (l : Bytes) (n : Nat) (h : 4 ≤ n) : num4 (l.take n) = num4 l := by
  unfold num4
  have e : ∀ i, i < 4 → (l.take n).getD i 0 = l.getD i 0 := by
    intro i hi
    simp only [List.getD_eq_getElem?_getD, List.getElem?_take, if_pos (show i < n by omega)]
  rw [e 0 (by omega), e 1 (by omega), e 2 (by omega), e 3 (by omega)]
theorem firstM_good {t : Bytes} {k : Nat} (h : (firstM t k).2.2 = 0) : ¬ t.length < k + 8 ∧ ¬(65536 < num4 (t.drop k) ∨ (t.drop k).length < num4 (t.drop k) + 8) ∧ crcN [(t.drop k).take 4, ((t.drop k).take (8 + num4 (t.drop k))).drop 8] = num4 ((t.drop k).drop 4) ∧
    firstM t k = (((t.drop k).take (8 + num4 (t.drop k))).drop 8, k + 8 + num4 (t.drop k), 0) := by
  unfold firstM at h ⊢
  split at h
  · cases h
  · next h1 =>
    split at h
    · cases h
    · next h2 =>
      split at h
      · next h3 => exact ⟨h1, h2, h3, by rw [if_neg h1, if_neg h2, if_pos h3]⟩
      · cases h
/-- A frame that ends ahead of the cut is found there too. -/
theorem firstM_take {t : Bytes} {k n : Nat} (h : (firstM t k).2.2 = 0) (hn : (firstM t k).2.1 ≤ n) : firstM (t.take n) k = firstM t k := by
  obtain ⟨h1, h2, h3, h4⟩ := firstM_good h
  rw [h4] at hn ⊢
  simp only at hn
  have hl : (t.take n).length = min n t.length := List.length_take
  have hdl : (t.drop k).length = t.length - k := List.length_drop
  have hd : (t.take n).drop k = (t.drop k).take (n - k) := List.drop_take
  have e1 : num4 ((t.take n).drop k) = num4 (t.drop k) := by rw [hd, num4_take _ _ (by omega)]
  have e2 : ((t.take n).drop k).take 4 = (t.drop k).take 4 := by rw [hd, List.take_take, Nat.min_eq_left (by omega)]
  have e3 : ((t.take n).drop k).take (8 + num4 (t.drop k)) = (t.drop k).take (8 + num4 (t.drop k)) := by rw [hd, List.take_take, Nat.min_eq_left (by omega)]
  have e4 : num4 (((t.take n).drop k).drop 4) = num4 ((t.drop k).drop 4) := by
    rw [hd, List.drop_take, num4_take _ _ (by omega)]
  have e5 : ((t.take n).drop k).length = min (n - k) (t.drop k).length := by rw [hd, List.length_take]
  unfold firstM
  rw [if_neg (by omega), e1, e2, e3, e4, if_neg (by rw [e5]; omega), if_pos h3]
theorem firstM_short {t : Bytes} {k : Nat} (h : t.length < k + 8) : (firstM t k).2.2 ≠ 0 := by
  unfold firstM
  rw [if_pos h]; decide
theorem num4_appC (l u : Bytes) (h : 4 ≤ l.length) : num4 (l ++ u) = num4 l := by
  rw [← num4_take (l ++ u) 4 (Nat.le_refl _), List.take_append_of_le_length h, num4_take l 4 (Nat.le_refl _)]
/-- A frame that is whole stays, whatever comes behind. -/
theorem firstM_appC {t : Bytes} {k : Nat} (u : Bytes) (h : (firstM t k).2.2 = 0) : firstM (t ++ u) k = firstM t k := by
  obtain ⟨h1, h2, h3, h4⟩ := firstM_good h
  rw [h4]
  have hdl : (t.drop k).length = t.length - k := List.length_drop
  have hd : (t ++ u).drop k = t.drop k ++ u := List.drop_append_of_le_length (by omega)
  have e1 : num4 (t.drop k ++ u) = num4 (t.drop k) := num4_appC _ _ (by omega)
  have e2 : (t.drop k ++ u).take 4 = (t.drop k).take 4 := List.take_append_of_le_length (by omega)
  have e3 : (t.drop k ++ u).take (8 + num4 (t.drop k)) = (t.drop k).take (8 + num4 (t.drop k)) := List.take_append_of_le_length (by omega)
  have e4 : num4 ((t.drop k ++ u).drop 4) = num4 ((t.drop k).drop 4) := by
    rw [List.drop_append_of_le_length (by omega), num4_appC _ _ (by rw [List.length_drop]; omega)]
  unfold firstM
  rw [List.length_append, if_neg (by omega), hd, e1, e2, e3, e4, List.length_append, if_neg (by omega), if_pos h3]
theorem num4_be4C (n : Nat) (l : Bytes) (hn : n < 4294967296) : num4 (be4 n ++ l) = n := by
  rw [num4_appC _ _ (by simp [be4]), num4_be4 n hn]
theorem firstM_frameC (t p : Bytes) (hp : p.length ≤ 65536) : firstM (t ++ frameB p) t.length = (p, (t ++ frameB p).length, 0) := by
  have hfl := frameB_len p
  have hc := (crcN_eq [be4 p.length, p]).2
  have hb : (be4 p.length).length = 4 := rfl
  have hd : (t ++ frameB p).drop t.length = frameB p := List.drop_left
  have e1 : num4 (frameB p) = p.length := by unfold frameB; rw [List.append_assoc, num4_be4C _ _ (by omega)]
  have e2 : (frameB p).take 4 = be4 p.length := by unfold frameB; rw [List.append_assoc]; rfl
  have e4 : (frameB p).drop 4 = be4 (crcN [be4 p.length, p]) ++ p := by unfold frameB; rw [List.append_assoc]; rfl
  have e3 : ((frameB p).take (8 + p.length)).drop 8 = p := by
    rw [List.take_of_length_le (by omega)]; rfl
  unfold firstM
  rw [if_neg (by rw [List.length_append]; omega), hd, e1, if_neg (by omega), e2, e3, e4, num4_be4C _ _ hc, if_pos rfl, List.length_append, hfl]
  simp only [Prod.mk.injEq, true_and, and_true]; omega
end Go.Proofs.YthpmmfapolcaiaaDoor

/- Own slices that begin anywhere in their block. -/
namespace Go.Eng
open Go

inductive VecO (e : TypeId) : Option Addr → Nat → Nat → List Value → Heap → Prop where
  | nil : VecO e none 0 0 [] []
  | row (g : Nat) (pre xs l post : List Value) (n cap : Nat) (fz : Nat × Nat) (hf : fz.2 ≤ pre.length ∨ (pre ++ (xs ++ (l ++ post))).length ≤ fz.1) (hx : xs.length = n) (hl : xs.length + l.length = cap) : VecO e (some ⟨g, pre.length, none⟩) n cap xs [(g, .cells ⟨pre ++ (xs ++ (l ++ post))⟩ e fz)]
theorem VecO.of {e : TypeId} {a : Option Addr} {n cap : Nat} {xs : List Value} {L : Heap} (h : Vec e 1 a n cap xs L) : VecO e a n cap xs L := by
  cases h with
  | nil => exact .nil
  | row g n cap xs l hx hl hn =>
    have := VecO.row (e := e) g [] xs l [] n cap (0, 0) (.inl (Nat.zero_le _)) (by omega) (by omega)
    simpa using this
theorem VecO.len {e : TypeId} {a : Option Addr} {n cap : Nat} {xs : List Value} {L : Heap} (h : VecO e a n cap xs L) : xs.length = n ∧ n ≤ cap := by
  cases h with
  | nil => exact ⟨rfl, Nat.le_refl _⟩
  | row g pre xs l post n cap fz hf hx hl => exact ⟨hx, by omega⟩
theorem VecO.pos {e : TypeId} {a : Option Addr} {n cap : Nat} {xs : List Value} {L : Heap} (h : VecO e a n cap xs L) (hn : 0 < n) : ∃ b off, a = some ⟨b, off, none⟩ := by
  cases h with
  | nil => omega
  | row g pre xs l post n cap fz hf hx hl => exact ⟨g, _, rfl⟩
theorem VecO.arr {e : TypeId} {a : Option Addr} {n cap : Nat} {xs : List Value} {L : Heap} (h : VecO e a n cap xs L) {w0 w : World} {T T' : List Nat} {H : Heap} {F : Heap → Heap} (hS : St w0 T H w) [hc : Chunk H L F]
    (hT : ∀ b ∈ keys L, b ∉ T') : Arr w T' a xs := by
  cases h with
  | nil => exact Arr.nil _ _ _
  | row g pre xs l post n cap fz hf hx hl =>
    intro j x hj
    have hm := hS.part (L := [(g, Obj.cells ⟨pre ++ (xs ++ (l ++ post))⟩ e fz)]).own _ (List.mem_singleton.2 rfl)
    refine ⟨g, pre.length, rfl, hT g (by simp [keys]), ?_⟩
    have hlt : j < xs.length := (List.getElem?_eq_some_iff.1 hj).1
    simp only [World.cell?, hm]
    simp only [Option.isSome_none, Bool.false_eq_true, if_false]
    rw [show (Array.mk (pre ++ (xs ++ (l ++ post))))[pre.length + j]? = (pre ++ (xs ++ (l ++ post)))[pre.length + j]? by simp, List.getElem?_append_right (by omega), show pre.length + j - pre.length = j by omega, List.getElem?_append_left hlt]
    exact hj
/-- The rest behind k elements. -/
theorem VecO.drop {e : TypeId} {b off n cap k : Nat} {xs : List Value} {L : Heap} (h : VecO e (some ⟨b, off, none⟩) n cap xs L) (hk : k ≤ n) : VecO e (subA b off k cap 1) (n - k) (cap - k) (xs.drop k) L := by
  cases h with
  | row g pre xs l post n cap fz hf hx hl =>
    unfold subA
    split
    · rename_i hc
      have h1 : l = [] := List.eq_nil_of_length_eq_zero (by omega)
      have h2 : xs.drop k = [] := List.drop_eq_nil_iff.2 (by omega)
      have := VecO.row (e := e) b pre [] [] (xs ++ (l ++ post)) 0 0 fz hf rfl rfl
      rw [h2, show n - k = 0 by omega, show cap - k = 0 by omega]
      simpa using this
    · have e2 : pre ++ xs.take k ++ (xs.drop k ++ (l ++ post)) = pre ++ (xs ++ (l ++ post)) := by
        rw [List.append_assoc, ← List.append_assoc (xs.take k), List.take_append_drop]
      have := VecO.row (e := e) b (pre ++ xs.take k) (xs.drop k) l post (n - k) (cap - k) fz (by
        rw [e2]; rcases hf with hf | hf
        · exact .inl (by rw [List.length_append]; omega)
        · exact .inr hf) (by simp; omega) (by simp; omega)
      have e1 : (pre ++ xs.take k).length = pre.length + k * 1 := by simp; omega
      rw [e1, e2] at this
      exact this

section
variable {P : Program} {T0 : Tbl}
theorem St.appO (hT : TOk P T0) {t e ty : TypeId} {i ie : TI} (hi : tf T0 t = some i) (hk : i.k = .slice e 1) (hie : tf T0 e = some ie)
    (hz : ie.zero.cells.size = 1) {w0 w : World} {T : List Nat} {H L : Heap} {F : Heap → Heap} (hS : St w0 T H w) {a : Option Addr} {n cap : Nat} {xs : List Value} (hv : VecO e a n cap xs L) [hc : Chunk H L F]
    {b : Option Addr} {m c : Nat} {news : List Value} (hm : news.length = m) (ha : Arr w [] b news) (h1 : news.all Value.oneCell' = true)
    (hlen : (n + m) * ie.bytes ≤ 140737488355328) (hlen' : n + m ≤ 9223372036854775807) {K : Value → World → Prop}
    (h : ∀ a' cap' L' w', VecO e a' (n + m) cap' (xs ++ news) L' → St w0 T (F L') w' → K (.slice a' (n + m) cap') w') :
    RunG P (Builtin.append_ ⟨[t, t]⟩ ty ⟨[.slice a n cap, .slice b m c]⟩) w K := by
  have ht := und_of hT hi
  rw [hk] at ht
  obtain ⟨ht, hes⟩ := ht
  obtain ⟨inf, hinf, hzz, hs1, hby⟩ := info_of hT hie
  have hsz : inf.size = 1 := by rw [hinf] at hes; simpa using hes
  have hpart : Holds L w := hS.part (L := L)
  have hin := St.enter hpart
  have hsrc : ∀ w', w'.heap = w.heap → (Builtin.firstCells 1 m (.slice b m c)).run P w' = .ok ⟨news⟩ w' := fun w' hw => ha.firstCells (sz := 1) (by omega) hw
  have step : ∀ o, St w0 T (F [(w.heap.size, o)]) (w.drew.alloc o) := fun o =>
    hS.call (L := L) (((hin.drew).alloc o).sub (List.Sublist.cons_cons _ (List.nil_sublist _)))
  cases hv with
  | nil => exact St.app (sz := 1) hT hi hk hie hz hS Vec.nil (by omega) ha h1 hlen hlen' fun a' cap' L' w' h2 h3 => h a' cap' L' w' (VecO.of h2) h3
  | row g pre xs l post n cap fz hf hx hl =>
    have hg : w.heap[g]? = some (.cells ⟨pre ++ (xs ++ (l ++ post))⟩ e fz) := hpart.own _ (List.mem_singleton.2 rfl)
    by_cases hroom : n + m ≤ cap
    · have hst := run_storeCells_fz P g (pre.length + n * 1) e fz news 0 ⟨pre ++ (xs ++ (l ++ post))⟩ w hg (by simp only [List.length_append] at hf; omega) (by simp; omega) (fun v hv => List.all_eq_true.1 h1 v hv)
      simp only [Nat.add_zero] at hst
      have e1 : (pre ++ (xs ++ (l ++ post))).take (pre.length + n * 1) = pre ++ xs := by
        rw [← List.append_assoc, show pre.length + n * 1 = (pre ++ xs).length by simp; omega, List.take_left]
      have e2 : (pre ++ (xs ++ (l ++ post))).drop (pre.length + n * 1 + news.length) = l.drop m ++ post := by
        rw [← List.append_assoc, show pre.length + n * 1 + news.length = (pre ++ xs).length + m by simp; omega, List.drop_append, List.drop_eq_nil_of_le (by omega), List.nil_append,
          show (pre ++ xs).length + m - (pre ++ xs).length = m by omega, List.drop_append_of_le_length (by omega)]
      have e3 : pre ++ xs ++ news ++ (l.drop m ++ post) = pre ++ ((xs ++ news) ++ (l.drop m ++ post)) := by simp
      have hv2 := VecO.row (e := e) g pre (xs ++ news) (l.drop m) post (n + m) cap fz (by simp only [List.length_append, List.length_drop] at hf ⊢; omega) (by simp; omega) (by simp; omega)
      refine RunG.of ?_ (h (some ⟨g, pre.length, none⟩) cap _ (w.setRow g ⟨pre ++ ((xs ++ news) ++ (l.drop m ++ post))⟩) hv2 ?_)
      · simp only [e1, e2] at hst
        rw [← e3]
        simp [Builtin.append_, run_underlying ht, sizeOf, typeInfo, hinf, hsz, Builtin.lenOf, hroom, hsrc w rfl, Addr.add_eq]
        rw [show pre.length + n = pre.length + n * 1 by omega, hst]
        simp
      · exact hS.call (L := [(g, .cells ⟨pre ++ (xs ++ (l ++ post))⟩ e fz)]) (hin.setRow (b := g) (l := pre ++ (xs ++ (l ++ post))) (l' := pre ++ ((xs ++ news) ++ (l.drop m ++ post))))
    · have hge := grownCap_ge w (n + m) cap e
      have h3 : ¬ (9223372036854775807 < ((n : Int) + (m : Int))) := by omega
      have h4 : ¬ (281474976710656 < Builtin.nextslicecap (n + m) cap * inf.bytes) := by
        have := growslice_fits (need := n + m) (old := cap) (bytes := inf.bytes) (by omega) (by rw [hby]; exact hlen)
        omega
      have h5 := hsrc w.drew rfl
      have hfo := run_firstCells_some (P := P) w.drew 1 n ⟨g, pre.length, none⟩ n cap xs (by omega) (fun j v hj => by
        rw [Addr.add_eq]
        have hlt : j < xs.length := (List.getElem?_eq_some_iff.1 hj).1
        have hg' : w.drew.heap[g]? = some (.cells ⟨pre ++ (xs ++ (l ++ post))⟩ e fz) := hg
        simp only [World.cell?, hg', Option.isSome_none, Bool.false_eq_true, if_false]
        rw [show (Array.mk (pre ++ (xs ++ (l ++ post))))[pre.length + j]? = (pre ++ (xs ++ (l ++ post)))[pre.length + j]? by simp, List.getElem?_append_right (by omega), show pre.length + j - pre.length = j by omega, List.getElem?_append_left hlt]
        exact hj)
      have hV := VecO.row (e := e) w.heap.size [] (xs ++ news) (Builtin.zeroCells ie.zero.cells (grownCap w (n + m) cap e - (n + m))).toList [] (n + m) (grownCap w (n + m) cap e) (0, 0) (.inl (Nat.zero_le _)) (by simp; omega) (by rw [zeroCells_len, hz]; simp; omega)
      refine RunG.of ?_ (h _ _ _ _ hV (step _))
      simp [Builtin.append_, run_underlying ht, sizeOf, typeInfo, zeroValue, hinf, hzz, hsz, Builtin.lenOf, hroom, h3, h4, Question.forced, hfo, h5, newRow, grownCap]
      congr 2
      apply Array.ext'
      simp
end
end Go.Eng

/- The document's numbers and texts (tarmacref01). -/
namespace Go.Proofs.YthpmmfapolcaiaaDoor
open Go Go.Eng Go.Proofs

theorem tmodN (a b : Nat) : ((a : Int).tmod (b : Int)) = ((a % b : Nat) : Int) := rfl
theorem tdivN (a b : Nat) : ((a : Int).tdiv (b : Int)) = ((a / b : Nat) : Int) := rfl
theorem numB_len10' (n : Nat) (h : n < 18446744073709551616) : (numB n).length ≤ 10 := numB_len10 n (by omega)
set_option maxHeartbeats 1000000 in
theorem Fold_spec {w : World} (z : Int) (hz : i64ok z) : Cl Tryd.prog f_tarmacref01_Fold [.int .i64 z] w fun v w' => v = u64V (zig z) ∧ St w [] [] w' := by
  have hS := St.start w
  unfold i64ok at hz
  refine en_tarmacref01_Fold rfl ?_
  unfold u64V zig
  by_cases h0 : 0 ≤ z
  · rw [if_pos h0]
    repeat (first | refine SemW.run tblOk ?_ | refine IntG.nw (by omega) ?_ | refine IntG.nu8 (by omega) ?_ | refine IntG.nu32 (by omega) ?_ | refine IntG.nu64 (by omega) ?_ | refine IntG.wr' rfl ?_ | refine Chk.mk (by omega) ?_ | (refine BrG.id ?_; first | with_reducible refine BrG.t ?_ | with_reducible refine BrG.f ?_ | with_reducible refine BrG.notG ?_ | with_reducible refine BrG.nn ?_ | with_reducible refine BrG.ns ?_ | refine BrG.pos (by omega) ?_ | refine BrG.neg (by omega) ?_ | with_reducible refine BrG.pos rfl ?_ | refine BrG.pos (by assumption) ?_ | refine BrG.neg (by assumption) ?_ | refine BrG.pos (by decide) ?_ | refine BrG.neg (by decide) ?_) | refine Chk.mk (ptr_ok tblOk rfl rfl) ?_ | refine NilG.mk (fun _ => by kernel_rfl) ?_ | refine Chk.mk (by decide) ?_)
    exact ⟨congrArg (Value.int .u64) (by omega), hS⟩
  · rw [if_neg h0]
    repeat (first | refine SemW.run tblOk ?_ | refine IntG.nw (by omega) ?_ | refine IntG.nu8 (by omega) ?_ | refine IntG.nu32 (by omega) ?_ | refine IntG.nu64 (by omega) ?_ | refine IntG.wr' rfl ?_ | refine Chk.mk (by omega) ?_ | (refine BrG.id ?_; first | with_reducible refine BrG.t ?_ | with_reducible refine BrG.f ?_ | with_reducible refine BrG.notG ?_ | with_reducible refine BrG.nn ?_ | with_reducible refine BrG.ns ?_ | refine BrG.pos (by omega) ?_ | refine BrG.neg (by omega) ?_ | with_reducible refine BrG.pos rfl ?_ | refine BrG.pos (by assumption) ?_ | refine BrG.neg (by assumption) ?_ | refine BrG.pos (by decide) ?_ | refine BrG.neg (by decide) ?_) | refine Chk.mk (ptr_ok tblOk rfl rfl) ?_ | refine NilG.mk (fun _ => by kernel_rfl) ?_ | refine Chk.mk (by decide) ?_)
    exact ⟨congrArg (Value.int .u64) (by omega), hS⟩
set_option maxHeartbeats 1000000 in
theorem NumE_spec {w : World} (n0 : Nat) (hn0 : n0 < 18446744073709551616) : Cl Tryd.prog f_tarmacref01_Num [u64V n0] w fun v w' => v = Str (numB n0) ∧ St w [] [] w' := by
  have hS := St.start w
  unfold u64V
  refine en_tarmacref01_Num rfl ?_
  have hlen0 := numB_len10' n0 hn0
  repeat (first | refine SemW.run tblOk ?_ | refine IntG.nw (by omega) ?_ | refine IntG.nu8 (by omega) ?_ | refine IntG.nu32 (by omega) ?_ | refine IntG.nu64 (by omega) ?_ | refine IntG.wr' rfl ?_ | refine Chk.mk (by omega) ?_ | (refine BrG.id ?_; first | with_reducible refine BrG.t ?_ | with_reducible refine BrG.f ?_ | with_reducible refine BrG.notG ?_ | with_reducible refine BrG.nn ?_ | with_reducible refine BrG.ns ?_ | refine BrG.pos (by omega) ?_ | refine BrG.neg (by omega) ?_ | with_reducible refine BrG.pos rfl ?_ | refine BrG.pos (by assumption) ?_ | refine BrG.neg (by assumption) ?_ | refine BrG.pos (by decide) ?_ | refine BrG.neg (by decide) ?_) | refine Chk.mk (ptr_ok tblOk rfl rfl) ?_ | refine NilG.mk (fun _ => by kernel_rfl) ?_ | refine Chk.mk (by decide) ?_)
  refine SemW.loop (fun x : Nat × Bytes × Option Addr × Nat => [(0, .int .u64 x.1), (3, .slice x.2.2.1 x.2.1.length x.2.2.2)])
    (fun x w' => x.1 ≤ n0 ∧ numB n0 = x.2.1 ++ numB x.1 ∧ ∃ L, Vec T_uint8 1 x.2.2.1 x.2.1.length x.2.2.2 (x.2.1.map byteV) L ∧ St w [] L w') (fun x => x.1) (n0, [], none, 0)
    ⟨rfl, rfl, trivial⟩ ⟨Nat.le_refl _, rfl, [], Vec.nil, hS⟩ ?_
  rintro ⟨m, pre, a, c⟩ w1 ⟨hm, hpre, L, hv, hS⟩
  simp only at hm hpre hv hS ⊢
  have hpl : pre.length + (numB m).length ≤ 10 := by rw [← List.length_append, ← hpre]; exact hlen0
  have hp1 := numB_pos m
  by_cases h : m < 128
  · rw [numB_lt h] at hpre
    have hb : IntKind.u8.wrap (m : Int) = (((UInt8.ofNat m).toNat : Nat) : Int) := u8wrap m
    have hbm : (((UInt8.ofNat m).toNat : Nat) : Int) = (m : Int) := by rw [← hb, wrapU .u8 rfl]; congr 1; exact Nat.mod_eq_of_lt (by show m < 256; omega)
    repeat (first | refine SemW.run tblOk ?_ | refine IntG.nw (by omega) ?_ | refine IntG.nu8 (by omega) ?_ | refine IntG.nu32 (by omega) ?_ | refine IntG.nu64 (by omega) ?_ | refine IntG.wr' rfl ?_ | refine Chk.mk (by omega) ?_ | (refine BrG.id ?_; first | with_reducible refine BrG.t ?_ | with_reducible refine BrG.f ?_ | with_reducible refine BrG.notG ?_ | with_reducible refine BrG.nn ?_ | with_reducible refine BrG.ns ?_ | refine BrG.pos (by omega) ?_ | refine BrG.neg (by omega) ?_ | with_reducible refine BrG.pos rfl ?_ | refine BrG.pos (by assumption) ?_ | refine BrG.neg (by assumption) ?_ | refine BrG.pos (by decide) ?_ | refine BrG.neg (by decide) ?_) | refine Chk.mk (ptr_ok tblOk rfl rfl) ?_ | refine NilG.mk (fun _ => by kernel_rfl) ?_ | refine Chk.mk (by decide) ?_)
    refine hS.al ?_
    intro r w2 _ hS
    repeat (first | refine SemW.run tblOk ?_ | refine IntG.nw (by omega) ?_ | refine IntG.nu8 (by omega) ?_ | refine IntG.nu32 (by omega) ?_ | refine IntG.nu64 (by omega) ?_ | refine IntG.wr' rfl ?_ | refine Chk.mk (by omega) ?_ | (refine BrG.id ?_; first | with_reducible refine BrG.t ?_ | with_reducible refine BrG.f ?_ | with_reducible refine BrG.notG ?_ | with_reducible refine BrG.nn ?_ | with_reducible refine BrG.ns ?_ | refine BrG.pos (by omega) ?_ | refine BrG.neg (by omega) ?_ | with_reducible refine BrG.pos rfl ?_ | refine BrG.pos (by assumption) ?_ | refine BrG.neg (by assumption) ?_ | refine BrG.pos (by decide) ?_ | refine BrG.neg (by decide) ?_) | refine Chk.mk (ptr_ok tblOk rfl rfl) ?_ | refine NilG.mk (fun _ => by kernel_rfl) ?_ | refine Chk.mk (by decide) ?_)
    refine St.app (sz := 1) (m := 1) tblOk rfl rfl rfl rfl hS hv (news := [UInt8.ofNat m].map byteV) rfl (by
      have := hS.arr (b := r) (T' := []) (by simp)
      have e : ([.int .u8 (m : Int)] : List Value) = [UInt8.ofNat m].map byteV := by simp only [List.map_cons, List.map_nil, byteV, hbm]
      rw [← e]; exact this) rfl (by show (_ + _) * 1 ≤ _; omega) (by omega) ?_
    intro a' c' L' w3 hv' hS
    rw [← List.map_append, ← hpre] at hv'
    have hl : pre.length + 1 = (numB n0).length := by rw [hpre]; simp
    rw [hl] at hv' ⊢
    repeat (first | refine SemW.run tblOk ?_ | refine IntG.nw (by omega) ?_ | refine IntG.nu8 (by omega) ?_ | refine IntG.nu32 (by omega) ?_ | refine IntG.nu64 (by omega) ?_ | refine IntG.wr' rfl ?_ | refine Chk.mk (by omega) ?_ | (refine BrG.id ?_; first | with_reducible refine BrG.t ?_ | with_reducible refine BrG.f ?_ | with_reducible refine BrG.notG ?_ | with_reducible refine BrG.nn ?_ | with_reducible refine BrG.ns ?_ | refine BrG.pos (by omega) ?_ | refine BrG.neg (by omega) ?_ | with_reducible refine BrG.pos rfl ?_ | refine BrG.pos (by assumption) ?_ | refine BrG.neg (by assumption) ?_ | refine BrG.pos (by decide) ?_ | refine BrG.neg (by decide) ?_) | refine Chk.mk (ptr_ok tblOk rfl rfl) ?_ | refine NilG.mk (fun _ => by kernel_rfl) ?_ | refine Chk.mk (by decide) ?_)
    refine toStr (T := []) tblOk rfl rfl rfl rfl rfl rfl (bs := numB n0) rfl (fun w' hw' => by subst hw'; exact hv'.arr hS (by simp)) ?_
    repeat (first | refine SemW.run tblOk ?_ | refine IntG.nw (by omega) ?_ | refine IntG.nu8 (by omega) ?_ | refine IntG.nu32 (by omega) ?_ | refine IntG.nu64 (by omega) ?_ | refine IntG.wr' rfl ?_ | refine Chk.mk (by omega) ?_ | (refine BrG.id ?_; first | with_reducible refine BrG.t ?_ | with_reducible refine BrG.f ?_ | with_reducible refine BrG.notG ?_ | with_reducible refine BrG.nn ?_ | with_reducible refine BrG.ns ?_ | refine BrG.pos (by omega) ?_ | refine BrG.neg (by omega) ?_ | with_reducible refine BrG.pos rfl ?_ | refine BrG.pos (by assumption) ?_ | refine BrG.neg (by assumption) ?_ | refine BrG.pos (by decide) ?_ | refine BrG.neg (by decide) ?_) | refine Chk.mk (ptr_ok tblOk rfl rfl) ?_ | refine NilG.mk (fun _ => by kernel_rfl) ?_ | refine Chk.mk (by decide) ?_)
    exact ⟨rfl, hS.nil⟩
  · rw [numB_ge h] at hpre
    have e1 : ((m : Int).tmod 128) = ((m % 128 : Nat) : Int) := tmodN m 128
    have e2 : ((m : Int).tdiv 128) = ((m / 128 : Nat) : Int) := tdivN m 128
    have hbm : (((UInt8.ofNat (m % 128 + 128)).toNat : Nat) : Int) = ((m % 128 : Nat) : Int) + 128 := by
      have : (UInt8.ofNat (m % 128 + 128)).toNat = m % 128 + 128 := by simp; omega
      rw [this]; omega
    repeat (first | refine SemW.run tblOk ?_ | refine IntG.nw (by omega) ?_ | refine IntG.nu8 (by omega) ?_ | refine IntG.nu32 (by omega) ?_ | refine IntG.nu64 (by omega) ?_ | refine IntG.wr' rfl ?_ | refine Chk.mk (by omega) ?_ | (refine BrG.id ?_; first | with_reducible refine BrG.t ?_ | with_reducible refine BrG.f ?_ | with_reducible refine BrG.notG ?_ | with_reducible refine BrG.nn ?_ | with_reducible refine BrG.ns ?_ | refine BrG.pos (by omega) ?_ | refine BrG.neg (by omega) ?_ | with_reducible refine BrG.pos rfl ?_ | refine BrG.pos (by assumption) ?_ | refine BrG.neg (by assumption) ?_ | refine BrG.pos (by decide) ?_ | refine BrG.neg (by decide) ?_) | refine Chk.mk (ptr_ok tblOk rfl rfl) ?_ | refine NilG.mk (fun _ => by kernel_rfl) ?_ | refine Chk.mk (by decide) ?_)
    rw [e1]
    repeat (first | refine SemW.run tblOk ?_ | refine IntG.nw (by omega) ?_ | refine IntG.nu8 (by omega) ?_ | refine IntG.nu32 (by omega) ?_ | refine IntG.nu64 (by omega) ?_ | refine IntG.wr' rfl ?_ | refine Chk.mk (by omega) ?_ | (refine BrG.id ?_; first | with_reducible refine BrG.t ?_ | with_reducible refine BrG.f ?_ | with_reducible refine BrG.notG ?_ | with_reducible refine BrG.nn ?_ | with_reducible refine BrG.ns ?_ | refine BrG.pos (by omega) ?_ | refine BrG.neg (by omega) ?_ | with_reducible refine BrG.pos rfl ?_ | refine BrG.pos (by assumption) ?_ | refine BrG.neg (by assumption) ?_ | refine BrG.pos (by decide) ?_ | refine BrG.neg (by decide) ?_) | refine Chk.mk (ptr_ok tblOk rfl rfl) ?_ | refine NilG.mk (fun _ => by kernel_rfl) ?_ | refine Chk.mk (by decide) ?_)
    refine hS.al ?_
    intro r w2 _ hS
    repeat (first | refine SemW.run tblOk ?_ | refine IntG.nw (by omega) ?_ | refine IntG.nu8 (by omega) ?_ | refine IntG.nu32 (by omega) ?_ | refine IntG.nu64 (by omega) ?_ | refine IntG.wr' rfl ?_ | refine Chk.mk (by omega) ?_ | (refine BrG.id ?_; first | with_reducible refine BrG.t ?_ | with_reducible refine BrG.f ?_ | with_reducible refine BrG.notG ?_ | with_reducible refine BrG.nn ?_ | with_reducible refine BrG.ns ?_ | refine BrG.pos (by omega) ?_ | refine BrG.neg (by omega) ?_ | with_reducible refine BrG.pos rfl ?_ | refine BrG.pos (by assumption) ?_ | refine BrG.neg (by assumption) ?_ | refine BrG.pos (by decide) ?_ | refine BrG.neg (by decide) ?_) | refine Chk.mk (ptr_ok tblOk rfl rfl) ?_ | refine NilG.mk (fun _ => by kernel_rfl) ?_ | refine Chk.mk (by decide) ?_)
    refine St.app (sz := 1) (m := 1) tblOk rfl rfl rfl rfl hS hv (news := [UInt8.ofNat (m % 128 + 128)].map byteV) rfl (by
      have := hS.arr (b := r) (T' := []) (by simp)
      have e : ([.int .u8 (((m % 128 : Nat) : Int) + 128)] : List Value) = [UInt8.ofNat (m % 128 + 128)].map byteV := by simp only [List.map_cons, List.map_nil, byteV, hbm]
      rw [← e]; exact this) rfl (by show (_ + _) * 1 ≤ _; omega) (by omega) ?_
    intro a' c' L' w3 hv' hS
    have hS := hS.sub (H' := L') (List.sublist_cons_self _ _)
    rw [← List.map_append] at hv'
    have hl : pre.length + 1 = (pre ++ [UInt8.ofNat (m % 128 + 128)]).length := by simp
    rw [hl] at hv' ⊢
    repeat (first | refine SemW.run tblOk ?_ | refine IntG.nw (by omega) ?_ | refine IntG.nu8 (by omega) ?_ | refine IntG.nu32 (by omega) ?_ | refine IntG.nu64 (by omega) ?_ | refine IntG.wr' rfl ?_ | refine Chk.mk (by omega) ?_ | (refine BrG.id ?_; first | with_reducible refine BrG.t ?_ | with_reducible refine BrG.f ?_ | with_reducible refine BrG.notG ?_ | with_reducible refine BrG.nn ?_ | with_reducible refine BrG.ns ?_ | refine BrG.pos (by omega) ?_ | refine BrG.neg (by omega) ?_ | with_reducible refine BrG.pos rfl ?_ | refine BrG.pos (by assumption) ?_ | refine BrG.neg (by assumption) ?_ | refine BrG.pos (by decide) ?_ | refine BrG.neg (by decide) ?_) | refine Chk.mk (ptr_ok tblOk rfl rfl) ?_ | refine NilG.mk (fun _ => by kernel_rfl) ?_ | refine Chk.mk (by decide) ?_)
    rw [e2]
    repeat (first | refine SemW.run tblOk ?_ | refine IntG.nw (by omega) ?_ | refine IntG.nu8 (by omega) ?_ | refine IntG.nu32 (by omega) ?_ | refine IntG.nu64 (by omega) ?_ | refine IntG.wr' rfl ?_ | refine Chk.mk (by omega) ?_ | (refine BrG.id ?_; first | with_reducible refine BrG.t ?_ | with_reducible refine BrG.f ?_ | with_reducible refine BrG.notG ?_ | with_reducible refine BrG.nn ?_ | with_reducible refine BrG.ns ?_ | refine BrG.pos (by omega) ?_ | refine BrG.neg (by omega) ?_ | with_reducible refine BrG.pos rfl ?_ | refine BrG.pos (by assumption) ?_ | refine BrG.neg (by assumption) ?_ | refine BrG.pos (by decide) ?_ | refine BrG.neg (by decide) ?_) | refine Chk.mk (ptr_ok tblOk rfl rfl) ?_ | refine NilG.mk (fun _ => by kernel_rfl) ?_ | refine Chk.mk (by decide) ?_)
    refine ⟨(m / 128, pre ++ [UInt8.ofNat (m % 128 + 128)], a', c'), ⟨rfl, rfl, trivial⟩, ⟨by simp only; omega, by simp only [List.append_assoc]; exact hpre, L', hv', hS⟩, by simp only; omega⟩
theorem IntE_spec {w : World} (z : Int) (hz : i64ok z) : Cl Tryd.prog f_tarmacref01_Int [.int .i64 z] w fun v w' => v = Str (intB z) ∧ St w [] [] w' := by
  have hS := St.start w
  have hzl : zig z < 18446744073709551616 := by
    unfold i64ok at hz; unfold zig; split <;> omega
  refine en_tarmacref01_Int rfl ?_
  repeat (first | refine SemW.run tblOk ?_ | refine IntG.nw (by omega) ?_ | refine IntG.nu8 (by omega) ?_ | refine IntG.nu32 (by omega) ?_ | refine IntG.nu64 (by omega) ?_ | refine IntG.wr' rfl ?_ | refine Chk.mk (by omega) ?_ | (refine BrG.id ?_; first | with_reducible refine BrG.t ?_ | with_reducible refine BrG.f ?_ | with_reducible refine BrG.notG ?_ | with_reducible refine BrG.nn ?_ | with_reducible refine BrG.ns ?_ | refine BrG.pos (by omega) ?_ | refine BrG.neg (by omega) ?_ | with_reducible refine BrG.pos rfl ?_ | refine BrG.pos (by assumption) ?_ | refine BrG.neg (by assumption) ?_ | refine BrG.pos (by decide) ?_ | refine BrG.neg (by decide) ?_) | refine Chk.mk (ptr_ok tblOk rfl rfl) ?_ | refine NilG.mk (fun _ => by kernel_rfl) ?_ | refine Chk.mk (by decide) ?_)
  refine Cl.mono (Fold_spec z hz) ?_
  rintro _ w1 ⟨rfl, hS'⟩
  have hS := hS.call0 hS'
  repeat (first | refine SemW.run tblOk ?_ | refine IntG.nw (by omega) ?_ | refine IntG.nu8 (by omega) ?_ | refine IntG.nu32 (by omega) ?_ | refine IntG.nu64 (by omega) ?_ | refine IntG.wr' rfl ?_ | refine Chk.mk (by omega) ?_ | (refine BrG.id ?_; first | with_reducible refine BrG.t ?_ | with_reducible refine BrG.f ?_ | with_reducible refine BrG.notG ?_ | with_reducible refine BrG.nn ?_ | with_reducible refine BrG.ns ?_ | refine BrG.pos (by omega) ?_ | refine BrG.neg (by omega) ?_ | with_reducible refine BrG.pos rfl ?_ | refine BrG.pos (by assumption) ?_ | refine BrG.neg (by assumption) ?_ | refine BrG.pos (by decide) ?_ | refine BrG.neg (by decide) ?_) | refine Chk.mk (ptr_ok tblOk rfl rfl) ?_ | refine NilG.mk (fun _ => by kernel_rfl) ?_ | refine Chk.mk (by decide) ?_)
  refine Cl.mono (NumE_spec (zig z) hzl) ?_
  rintro _ w2 ⟨rfl, hS'⟩
  have hS := hS.call0 hS'
  repeat (first | refine SemW.run tblOk ?_ | refine IntG.nw (by omega) ?_ | refine IntG.nu8 (by omega) ?_ | refine IntG.nu32 (by omega) ?_ | refine IntG.nu64 (by omega) ?_ | refine IntG.wr' rfl ?_ | refine Chk.mk (by omega) ?_ | (refine BrG.id ?_; first | with_reducible refine BrG.t ?_ | with_reducible refine BrG.f ?_ | with_reducible refine BrG.notG ?_ | with_reducible refine BrG.nn ?_ | with_reducible refine BrG.ns ?_ | refine BrG.pos (by omega) ?_ | refine BrG.neg (by omega) ?_ | with_reducible refine BrG.pos rfl ?_ | refine BrG.pos (by assumption) ?_ | refine BrG.neg (by assumption) ?_ | refine BrG.pos (by decide) ?_ | refine BrG.neg (by decide) ?_) | refine Chk.mk (ptr_ok tblOk rfl rfl) ?_ | refine NilG.mk (fun _ => by kernel_rfl) ?_ | refine Chk.mk (by decide) ?_)
  exact ⟨rfl, hS⟩
end Go.Proofs.YthpmmfapolcaiaaDoor

/- tarmacref02: four, Sum, Frame, First. -/
namespace Go.Proofs.YthpmmfapolcaiaaDoor
open Go Go.Eng Go.Proofs
theorem be4_form (n : Nat) : be4 n = [UInt8.ofNat (n / 16777216), UInt8.ofNat (n / 65536 % 256), UInt8.ofNat (n / 256 % 256), UInt8.ofNat (n % 256)] := by
  have e : ∀ m : Nat, UInt8.ofNat m = UInt8.ofNat (m % 256) := by
    intro m
    apply UInt8.toNat_inj.1
    simp
  unfold be4
  rw [e (n / 2 ^ 16), e (n / 2 ^ 8), e n]
theorem byteV_small (m : Nat) (h : m < 256) : byteV (UInt8.ofNat m) = .int .u8 (m : Int) := by
  unfold byteV
  have : (UInt8.ofNat m).toNat = m := by simp; omega
  rw [this]
set_option maxHeartbeats 1000000 in
theorem four02_spec {w : World} (n : Nat) (hn : n < 4294967296) : Cl Tryd.prog f_tarmacref02_four [.int .u32 n] w fun v w' => v = Str (be4 n) ∧ St w [] [] w' := by
  have hS := St.start w
  have e1 : ((n : Int).tdiv 16777216) = ((n / 16777216 : Nat) : Int) := tdivN n 16777216
  have e2 : ((n : Int).tdiv 65536) = ((n / 65536 : Nat) : Int) := tdivN n 65536
  have e3 : ((n : Int).tdiv 256) = ((n / 256 : Nat) : Int) := tdivN n 256
  have e4 : (((n / 65536 : Nat) : Int).tmod 256) = ((n / 65536 % 256 : Nat) : Int) := tmodN _ 256
  have e5 : (((n / 256 : Nat) : Int).tmod 256) = ((n / 256 % 256 : Nat) : Int) := tmodN _ 256
  have e6 : ((n : Int).tmod 256) = ((n % 256 : Nat) : Int) := tmodN _ 256
  refine en_tarmacref02_four rfl ?_
  repeat (first | refine SemW.run tblOk ?_ | refine IntG.nw (by omega) ?_ | refine IntG.nu8 (by omega) ?_ | refine IntG.nu32 (by omega) ?_ | refine IntG.nu64 (by omega) ?_ | refine IntG.wr' rfl ?_ | refine Chk.mk (by omega) ?_ | (refine BrG.id ?_; first | with_reducible refine BrG.t ?_ | with_reducible refine BrG.f ?_ | with_reducible refine BrG.notG ?_ | with_reducible refine BrG.nn ?_ | with_reducible refine BrG.ns ?_ | refine BrG.pos (by omega) ?_ | refine BrG.neg (by omega) ?_ | with_reducible refine BrG.pos rfl ?_ | refine BrG.pos (by assumption) ?_ | refine BrG.neg (by assumption) ?_ | refine BrG.pos (by decide) ?_ | refine BrG.neg (by decide) ?_) | refine Chk.mk (ptr_ok tblOk rfl rfl) ?_ | refine NilG.mk (fun _ => by kernel_rfl) ?_ | refine Chk.mk (by decide) ?_)
  rw [e1]
  repeat (first | refine SemW.run tblOk ?_ | refine IntG.nw (by omega) ?_ | refine IntG.nu8 (by omega) ?_ | refine IntG.nu32 (by omega) ?_ | refine IntG.nu64 (by omega) ?_ | refine IntG.wr' rfl ?_ | refine Chk.mk (by omega) ?_ | (refine BrG.id ?_; first | with_reducible refine BrG.t ?_ | with_reducible refine BrG.f ?_ | with_reducible refine BrG.notG ?_ | with_reducible refine BrG.nn ?_ | with_reducible refine BrG.ns ?_ | refine BrG.pos (by omega) ?_ | refine BrG.neg (by omega) ?_ | with_reducible refine BrG.pos rfl ?_ | refine BrG.pos (by assumption) ?_ | refine BrG.neg (by assumption) ?_ | refine BrG.pos (by decide) ?_ | refine BrG.neg (by decide) ?_) | refine Chk.mk (ptr_ok tblOk rfl rfl) ?_ | refine NilG.mk (fun _ => by kernel_rfl) ?_ | refine Chk.mk (by decide) ?_)
  rw [e2]
  repeat (first | refine SemW.run tblOk ?_ | refine IntG.nw (by omega) ?_ | refine IntG.nu8 (by omega) ?_ | refine IntG.nu32 (by omega) ?_ | refine IntG.nu64 (by omega) ?_ | refine IntG.wr' rfl ?_ | refine Chk.mk (by omega) ?_ | (refine BrG.id ?_; first | with_reducible refine BrG.t ?_ | with_reducible refine BrG.f ?_ | with_reducible refine BrG.notG ?_ | with_reducible refine BrG.nn ?_ | with_reducible refine BrG.ns ?_ | refine BrG.pos (by omega) ?_ | refine BrG.neg (by omega) ?_ | with_reducible refine BrG.pos rfl ?_ | refine BrG.pos (by assumption) ?_ | refine BrG.neg (by assumption) ?_ | refine BrG.pos (by decide) ?_ | refine BrG.neg (by decide) ?_) | refine Chk.mk (ptr_ok tblOk rfl rfl) ?_ | refine NilG.mk (fun _ => by kernel_rfl) ?_ | refine Chk.mk (by decide) ?_)
  rw [e4]
  repeat (first | refine SemW.run tblOk ?_ | refine IntG.nw (by omega) ?_ | refine IntG.nu8 (by omega) ?_ | refine IntG.nu32 (by omega) ?_ | refine IntG.nu64 (by omega) ?_ | refine IntG.wr' rfl ?_ | refine Chk.mk (by omega) ?_ | (refine BrG.id ?_; first | with_reducible refine BrG.t ?_ | with_reducible refine BrG.f ?_ | with_reducible refine BrG.notG ?_ | with_reducible refine BrG.nn ?_ | with_reducible refine BrG.ns ?_ | refine BrG.pos (by omega) ?_ | refine BrG.neg (by omega) ?_ | with_reducible refine BrG.pos rfl ?_ | refine BrG.pos (by assumption) ?_ | refine BrG.neg (by assumption) ?_ | refine BrG.pos (by decide) ?_ | refine BrG.neg (by decide) ?_) | refine Chk.mk (ptr_ok tblOk rfl rfl) ?_ | refine NilG.mk (fun _ => by kernel_rfl) ?_ | refine Chk.mk (by decide) ?_)
  rw [e3]
  repeat (first | refine SemW.run tblOk ?_ | refine IntG.nw (by omega) ?_ | refine IntG.nu8 (by omega) ?_ | refine IntG.nu32 (by omega) ?_ | refine IntG.nu64 (by omega) ?_ | refine IntG.wr' rfl ?_ | refine Chk.mk (by omega) ?_ | (refine BrG.id ?_; first | with_reducible refine BrG.t ?_ | with_reducible refine BrG.f ?_ | with_reducible refine BrG.notG ?_ | with_reducible refine BrG.nn ?_ | with_reducible refine BrG.ns ?_ | refine BrG.pos (by omega) ?_ | refine BrG.neg (by omega) ?_ | with_reducible refine BrG.pos rfl ?_ | refine BrG.pos (by assumption) ?_ | refine BrG.neg (by assumption) ?_ | refine BrG.pos (by decide) ?_ | refine BrG.neg (by decide) ?_) | refine Chk.mk (ptr_ok tblOk rfl rfl) ?_ | refine NilG.mk (fun _ => by kernel_rfl) ?_ | refine Chk.mk (by decide) ?_)
  rw [e5]
  repeat (first | refine SemW.run tblOk ?_ | refine IntG.nw (by omega) ?_ | refine IntG.nu8 (by omega) ?_ | refine IntG.nu32 (by omega) ?_ | refine IntG.nu64 (by omega) ?_ | refine IntG.wr' rfl ?_ | refine Chk.mk (by omega) ?_ | (refine BrG.id ?_; first | with_reducible refine BrG.t ?_ | with_reducible refine BrG.f ?_ | with_reducible refine BrG.notG ?_ | with_reducible refine BrG.nn ?_ | with_reducible refine BrG.ns ?_ | refine BrG.pos (by omega) ?_ | refine BrG.neg (by omega) ?_ | with_reducible refine BrG.pos rfl ?_ | refine BrG.pos (by assumption) ?_ | refine BrG.neg (by assumption) ?_ | refine BrG.pos (by decide) ?_ | refine BrG.neg (by decide) ?_) | refine Chk.mk (ptr_ok tblOk rfl rfl) ?_ | refine NilG.mk (fun _ => by kernel_rfl) ?_ | refine Chk.mk (by decide) ?_)
  rw [e6]
  repeat (first | refine SemW.run tblOk ?_ | refine IntG.nw (by omega) ?_ | refine IntG.nu8 (by omega) ?_ | refine IntG.nu32 (by omega) ?_ | refine IntG.nu64 (by omega) ?_ | refine IntG.wr' rfl ?_ | refine Chk.mk (by omega) ?_ | (refine BrG.id ?_; first | with_reducible refine BrG.t ?_ | with_reducible refine BrG.f ?_ | with_reducible refine BrG.notG ?_ | with_reducible refine BrG.nn ?_ | with_reducible refine BrG.ns ?_ | refine BrG.pos (by omega) ?_ | refine BrG.neg (by omega) ?_ | with_reducible refine BrG.pos rfl ?_ | refine BrG.pos (by assumption) ?_ | refine BrG.neg (by assumption) ?_ | refine BrG.pos (by decide) ?_ | refine BrG.neg (by decide) ?_) | refine Chk.mk (ptr_ok tblOk rfl rfl) ?_ | refine NilG.mk (fun _ => by kernel_rfl) ?_ | refine Chk.mk (by decide) ?_)
  refine hS.al ?_
  intro r w2 _ hS
  repeat (first | refine SemW.run tblOk ?_ | refine IntG.nw (by omega) ?_ | refine IntG.nu8 (by omega) ?_ | refine IntG.nu32 (by omega) ?_ | refine IntG.nu64 (by omega) ?_ | refine IntG.wr' rfl ?_ | refine Chk.mk (by omega) ?_ | (refine BrG.id ?_; first | with_reducible refine BrG.t ?_ | with_reducible refine BrG.f ?_ | with_reducible refine BrG.notG ?_ | with_reducible refine BrG.nn ?_ | with_reducible refine BrG.ns ?_ | refine BrG.pos (by omega) ?_ | refine BrG.neg (by omega) ?_ | with_reducible refine BrG.pos rfl ?_ | refine BrG.pos (by assumption) ?_ | refine BrG.neg (by assumption) ?_ | refine BrG.pos (by decide) ?_ | refine BrG.neg (by decide) ?_) | refine Chk.mk (ptr_ok tblOk rfl rfl) ?_ | refine NilG.mk (fun _ => by kernel_rfl) ?_ | refine Chk.mk (by decide) ?_)
  refine toStr (T := []) tblOk rfl rfl rfl rfl rfl rfl (bs := be4 n) rfl (fun w' hw' => by
    subst hw'
    have := hS.arr (b := r) (T' := []) (by simp)
    rw [be4_form n]
    simp only [List.map_cons, List.map_nil, byteV_small (n / 16777216) (by omega), byteV_small (n / 65536 % 256) (by omega), byteV_small (n / 256 % 256) (by omega), byteV_small (n % 256) (by omega)]
    have hw : ∀ m : Nat, m < 256 → IntKind.u8.wrap (m : Int) = (m : Int) := by
      intro m hm
      rw [wrapU .u8 rfl]; congr 1; exact Nat.mod_eq_of_lt hm
    simp only [hw (n / 65536 % 256) (by omega), hw (n / 256 % 256) (by omega)] at this
    exact this) ?_
  repeat (first | refine SemW.run tblOk ?_ | refine IntG.nw (by omega) ?_ | refine IntG.nu8 (by omega) ?_ | refine IntG.nu32 (by omega) ?_ | refine IntG.nu64 (by omega) ?_ | refine IntG.wr' rfl ?_ | refine Chk.mk (by omega) ?_ | (refine BrG.id ?_; first | with_reducible refine BrG.t ?_ | with_reducible refine BrG.f ?_ | with_reducible refine BrG.notG ?_ | with_reducible refine BrG.nn ?_ | with_reducible refine BrG.ns ?_ | refine BrG.pos (by omega) ?_ | refine BrG.neg (by omega) ?_ | with_reducible refine BrG.pos rfl ?_ | refine BrG.pos (by assumption) ?_ | refine BrG.neg (by assumption) ?_ | refine BrG.pos (by decide) ?_ | refine BrG.neg (by decide) ?_) | refine Chk.mk (ptr_ok tblOk rfl rfl) ?_ | refine NilG.mk (fun _ => by kernel_rfl) ?_ | refine Chk.mk (by decide) ?_)
  exact ⟨rfl, hS.nil⟩
/-- One bit of the sum. -/
def bitN02 (r : Nat) : Nat := if r % 2 = 1 then (r / 2) ^^^ 3988292384 else r / 2
theorem crcBit_nat (r : Nat) (h : r < 4294967296) : crcBit (r : Int) = ((bitN02 r : Nat) : Int) ∧ bitN02 r < 4294967296 := by
  have e1 : ((r : Int).fdiv (2 ^ (min (1 : Int).toNat 32))) = ((r / 2 : Nat) : Int) := fdivP r 1
  have e2 : andI .u32 (r : Int) 1 = ((r % 2 : Nat) : Int) := by
    have := andU .u32 rfl r 1 h (by decide)
    rw [Nat.and_one_is_mod] at this; exact this
  unfold crcBit bitN02
  rw [e1, e2]
  rcases Nat.mod_two_eq_zero_or_one r with h0 | h1
  · rw [h0, if_neg (by decide)]
    have a1 : andI .u32 3988292384 (IntKind.u32.wrap (0 - ((0 : Nat) : Int))) = ((0 : Nat) : Int) := by decide +kernel
    rw [a1, xorU .u32 rfl (r / 2) 0 (by show _ < 4294967296; omega) (by decide), Nat.xor_zero]
    exact ⟨rfl, by omega⟩
  · rw [h1, if_pos rfl]
    have a1 : andI .u32 3988292384 (IntKind.u32.wrap (0 - ((1 : Nat) : Int))) = ((3988292384 : Nat) : Int) := by decide +kernel
    rw [a1, xorU .u32 rfl (r / 2) 3988292384 (by show _ < 4294967296; omega) (by decide)]
    exact ⟨rfl, Nat.xor_lt_two_pow (n := 32) (show _ < 4294967296 by omega) (by decide)⟩
theorem crcs_one (r : Int) (p : Bytes) (j : Nat) (hj : j < p.length) : crcs r (p.take (j + 1)) = crcBits 8 (xorI .u32 (crcs r (p.take j)) (IntKind.u32.wrap (p.getD j 0).toNat)) := crcs_succ r p j hj
theorem crc_end (n : Nat) (h : n < 4294967296) : xorI .u32 (if IntKind.u32.signed then -1 else IntKind.u32.max) (n : Int) = ((4294967295 - n : Nat) : Int) := by
  have e0 : (if IntKind.u32.signed then (-1 : Int) else IntKind.u32.max) = ((4294967295 : Nat) : Int) := by decide
  rw [e0, xorU .u32 rfl 4294967295 n (by decide) h]
  have h1 : (4294967295 ^^^ n) = 4294967295 - n := by
    have h2 := BitVec.toNat_not (x := BitVec.ofNat 32 n)
    rw [← BitVec.allOnes_xor, BitVec.toNat_xor, BitVec.toNat_allOnes, BitVec.toNat_ofNat, Nat.mod_eq_of_lt h] at h2
    simpa using h2
  rw [h1]
theorem crc_app (a b : Bytes) : crcN [a, b] = crcN [a ++ b] := by
  unfold crcN crc crcs
  simp only [List.foldl_cons, List.foldl_nil, List.foldl_append]
set_option maxHeartbeats 4000000 in
theorem Sum02_spec {w : World} (t : Bytes) (ht : t.length ≤ 1099511627776) : Cl Tryd.prog f_tarmacref02_Sum [Str t] w fun v w' => v = .int .u32 (crcN [t]) ∧ St w [] [] w' := by
  have hS := St.start w
  refine en_tarmacref02_Sum rfl ?_
  repeat (first | refine SemW.run tblOk ?_ | refine IntG.nw (by omega) ?_ | refine IntG.nu8 (by omega) ?_ | refine IntG.nu32 (by omega) ?_ | refine IntG.nu64 (by omega) ?_ | refine IntG.wr' rfl ?_ | refine Chk.mk (by omega) ?_ | (refine BrG.id ?_; first | with_reducible refine BrG.t ?_ | with_reducible refine BrG.f ?_ | with_reducible refine BrG.notG ?_ | with_reducible refine BrG.nn ?_ | with_reducible refine BrG.ns ?_ | refine BrG.pos (by omega) ?_ | refine BrG.neg (by omega) ?_ | with_reducible refine BrG.pos rfl ?_ | refine BrG.pos (by assumption) ?_ | refine BrG.neg (by assumption) ?_ | refine BrG.pos (by decide) ?_ | refine BrG.neg (by decide) ?_) | refine Chk.mk (ptr_ok tblOk rfl rfl) ?_ | refine NilG.mk (fun _ => by kernel_rfl) ?_ | refine Chk.mk (by decide) ?_)
  refine SemW.loop (fun z : Nat × Nat => [(0, Str t), (3, .int .u32 z.2), (4, .int .i64 z.1)]) (fun z w' => (z.1 ≤ t.length ∧ crcs 4294967295 (t.take z.1) = (z.2 : Int) ∧ z.2 < 4294967296) ∧ St w [] [] w') (fun z => t.length - z.1) (0, 4294967295)
    ⟨rfl, rfl, rfl, trivial⟩ ⟨⟨Nat.zero_le _, rfl, by decide⟩, hS⟩ ?_
  clear hS
  rintro ⟨i, n⟩ w1 ⟨⟨hi, hn, hlt⟩, hS⟩
  simp only at hi hn hlt hS ⊢
  by_cases hil : i < t.length
  · have hc := (t.getD i 0).toNat_lt
    have hsucc := crcs_one 4294967295 t i hil
    rw [hn] at hsucc
    have hx0 : xorI .u32 (n : Int) (IntKind.u32.wrap ((t.getD i 0).toNat : Int)) = ((n ^^^ (t.getD i 0).toNat : Nat) : Int) := by
      rw [u32wrap (t.getD i 0).toNat (by omega)]; exact xorU .u32 rfl n (t.getD i 0).toNat hlt (by show _ < 4294967296; omega)
    have hx1 : xorI .u32 (n : Int) ((t.getD i 0).toNat : Int) = ((n ^^^ (t.getD i 0).toNat : Nat) : Int) := xorU .u32 rfl n (t.getD i 0).toNat hlt (by show _ < 4294967296; omega)
    have hxl : n ^^^ (t.getD i 0).toNat < 4294967296 := Nat.xor_lt_two_pow (n := 32) hlt (show (t.getD i 0).toNat < 4294967296 by omega)
    rw [hx0] at hsucc
    generalize hcc : n ^^^ (t.getD i 0).toNat = x0 at hx0 hx1 hxl hsucc
    repeat (first | refine SemW.run tblOk ?_ | refine IntG.nw (by omega) ?_ | refine IntG.nu8 (by omega) ?_ | refine IntG.nu32 (by omega) ?_ | refine IntG.nu64 (by omega) ?_ | refine IntG.wr' rfl ?_ | refine Chk.mk (by omega) ?_ | (refine BrG.id ?_; first | with_reducible refine BrG.t ?_ | with_reducible refine BrG.f ?_ | with_reducible refine BrG.notG ?_ | with_reducible refine BrG.nn ?_ | with_reducible refine BrG.ns ?_ | refine BrG.pos (by omega) ?_ | refine BrG.neg (by omega) ?_ | with_reducible refine BrG.pos rfl ?_ | refine BrG.pos (by assumption) ?_ | refine BrG.neg (by assumption) ?_ | refine BrG.pos (by decide) ?_ | refine BrG.neg (by decide) ?_) | refine Chk.mk (ptr_ok tblOk rfl rfl) ?_ | refine NilG.mk (fun _ => by kernel_rfl) ?_ | refine Chk.mk (by decide) ?_)
    rw [show ((i : Nat) : Int).toNat = i from rfl, hx0]
    repeat (first | refine SemW.run tblOk ?_ | refine IntG.nw (by omega) ?_ | refine IntG.nu8 (by omega) ?_ | refine IntG.nu32 (by omega) ?_ | refine IntG.nu64 (by omega) ?_ | refine IntG.wr' rfl ?_ | refine Chk.mk (by omega) ?_ | (refine BrG.id ?_; first | with_reducible refine BrG.t ?_ | with_reducible refine BrG.f ?_ | with_reducible refine BrG.notG ?_ | with_reducible refine BrG.nn ?_ | with_reducible refine BrG.ns ?_ | refine BrG.pos (by omega) ?_ | refine BrG.neg (by omega) ?_ | with_reducible refine BrG.pos rfl ?_ | refine BrG.pos (by assumption) ?_ | refine BrG.neg (by assumption) ?_ | refine BrG.pos (by decide) ?_ | refine BrG.neg (by decide) ?_) | refine Chk.mk (ptr_ok tblOk rfl rfl) ?_ | refine NilG.mk (fun _ => by kernel_rfl) ?_ | refine Chk.mk (by decide) ?_)
    refine SemW.loop (fun z : Nat × Nat => [(0, Str t), (3, .int .u32 z.2), (4, .int .i64 i), (5, .int .i64 z.1)]) (fun z w' => (z.1 ≤ 8 ∧ crcBits z.1 ((x0 : Nat) : Int) = (z.2 : Int) ∧ z.2 < 4294967296) ∧ St w [] [] w') (fun z => 8 - z.1) (0, x0)
      ⟨rfl, rfl, rfl, rfl, trivial⟩ ⟨⟨Nat.zero_le _, rfl, hxl⟩, hS⟩ ?_
    clear hS
    rintro ⟨b, m⟩ w2 ⟨⟨hb, hm, hml⟩, hS⟩
    simp only at hb hm hml hS ⊢
    by_cases hb8 : b < 8
    · have hbit := crcBit_nat m hml
      have hm2 : crcBits (b + 1) ((x0 : Nat) : Int) = ((bitN02 m : Nat) : Int) := by
        show crcBit (crcBits b _) = _
        rw [hm]; exact hbit.1
      have e1 : ((m : Int).tmod 2) = ((m % 2 : Nat) : Int) := tmodN m 2
      have e2 : ((m : Int).tdiv 2) = ((m / 2 : Nat) : Int) := tdivN m 2
      have hx3 : xorI .u32 ((m / 2 : Nat) : Int) 3988292384 = (((m / 2) ^^^ 3988292384 : Nat) : Int) := xorU .u32 rfl (m / 2) 3988292384 (by show _ < 4294967296; omega) (by decide)
      unfold bitN02 at hm2 hbit
      by_cases h1 : m % 2 = 1
      · rw [if_pos h1] at hm2 hbit
        repeat (first | refine SemW.run tblOk ?_ | refine IntG.nw (by omega) ?_ | refine IntG.nu8 (by omega) ?_ | refine IntG.nu32 (by omega) ?_ | refine IntG.nu64 (by omega) ?_ | refine IntG.wr' rfl ?_ | refine Chk.mk (by omega) ?_ | (refine BrG.id ?_; first | with_reducible refine BrG.t ?_ | with_reducible refine BrG.f ?_ | with_reducible refine BrG.notG ?_ | with_reducible refine BrG.nn ?_ | with_reducible refine BrG.ns ?_ | refine BrG.pos (by omega) ?_ | refine BrG.neg (by omega) ?_ | with_reducible refine BrG.pos rfl ?_ | refine BrG.pos (by assumption) ?_ | refine BrG.neg (by assumption) ?_ | refine BrG.pos (by decide) ?_ | refine BrG.neg (by decide) ?_) | refine Chk.mk (ptr_ok tblOk rfl rfl) ?_ | refine NilG.mk (fun _ => by kernel_rfl) ?_ | refine Chk.mk (by decide) ?_)
        rw [e1]
        repeat (first | refine SemW.run tblOk ?_ | refine IntG.nw (by omega) ?_ | refine IntG.nu8 (by omega) ?_ | refine IntG.nu32 (by omega) ?_ | refine IntG.nu64 (by omega) ?_ | refine IntG.wr' rfl ?_ | refine Chk.mk (by omega) ?_ | (refine BrG.id ?_; first | with_reducible refine BrG.t ?_ | with_reducible refine BrG.f ?_ | with_reducible refine BrG.notG ?_ | with_reducible refine BrG.nn ?_ | with_reducible refine BrG.ns ?_ | refine BrG.pos (by omega) ?_ | refine BrG.neg (by omega) ?_ | with_reducible refine BrG.pos rfl ?_ | refine BrG.pos (by assumption) ?_ | refine BrG.neg (by assumption) ?_ | refine BrG.pos (by decide) ?_ | refine BrG.neg (by decide) ?_) | refine Chk.mk (ptr_ok tblOk rfl rfl) ?_ | refine NilG.mk (fun _ => by kernel_rfl) ?_ | refine Chk.mk (by decide) ?_)
        rw [e2]
        repeat (first | refine SemW.run tblOk ?_ | refine IntG.nw (by omega) ?_ | refine IntG.nu8 (by omega) ?_ | refine IntG.nu32 (by omega) ?_ | refine IntG.nu64 (by omega) ?_ | refine IntG.wr' rfl ?_ | refine Chk.mk (by omega) ?_ | (refine BrG.id ?_; first | with_reducible refine BrG.t ?_ | with_reducible refine BrG.f ?_ | with_reducible refine BrG.notG ?_ | with_reducible refine BrG.nn ?_ | with_reducible refine BrG.ns ?_ | refine BrG.pos (by omega) ?_ | refine BrG.neg (by omega) ?_ | with_reducible refine BrG.pos rfl ?_ | refine BrG.pos (by assumption) ?_ | refine BrG.neg (by assumption) ?_ | refine BrG.pos (by decide) ?_ | refine BrG.neg (by decide) ?_) | refine Chk.mk (ptr_ok tblOk rfl rfl) ?_ | refine NilG.mk (fun _ => by kernel_rfl) ?_ | refine Chk.mk (by decide) ?_)
        rw [hx3]
        repeat (first | refine SemW.run tblOk ?_ | refine IntG.nw (by omega) ?_ | refine IntG.nu8 (by omega) ?_ | refine IntG.nu32 (by omega) ?_ | refine IntG.nu64 (by omega) ?_ | refine IntG.wr' rfl ?_ | refine Chk.mk (by omega) ?_ | (refine BrG.id ?_; first | with_reducible refine BrG.t ?_ | with_reducible refine BrG.f ?_ | with_reducible refine BrG.notG ?_ | with_reducible refine BrG.nn ?_ | with_reducible refine BrG.ns ?_ | refine BrG.pos (by omega) ?_ | refine BrG.neg (by omega) ?_ | with_reducible refine BrG.pos rfl ?_ | refine BrG.pos (by assumption) ?_ | refine BrG.neg (by assumption) ?_ | refine BrG.pos (by decide) ?_ | refine BrG.neg (by decide) ?_) | refine Chk.mk (ptr_ok tblOk rfl rfl) ?_ | refine NilG.mk (fun _ => by kernel_rfl) ?_ | refine Chk.mk (by decide) ?_)
        exact ⟨(b + 1, (m / 2) ^^^ 3988292384), ⟨rfl, rfl, rfl, rfl, trivial⟩, ⟨⟨by simp only; omega, hm2, hbit.2⟩, hS⟩, by simp only; omega⟩
      · rw [if_neg h1] at hm2 hbit
        repeat (first | refine SemW.run tblOk ?_ | refine IntG.nw (by omega) ?_ | refine IntG.nu8 (by omega) ?_ | refine IntG.nu32 (by omega) ?_ | refine IntG.nu64 (by omega) ?_ | refine IntG.wr' rfl ?_ | refine Chk.mk (by omega) ?_ | (refine BrG.id ?_; first | with_reducible refine BrG.t ?_ | with_reducible refine BrG.f ?_ | with_reducible refine BrG.notG ?_ | with_reducible refine BrG.nn ?_ | with_reducible refine BrG.ns ?_ | refine BrG.pos (by omega) ?_ | refine BrG.neg (by omega) ?_ | with_reducible refine BrG.pos rfl ?_ | refine BrG.pos (by assumption) ?_ | refine BrG.neg (by assumption) ?_ | refine BrG.pos (by decide) ?_ | refine BrG.neg (by decide) ?_) | refine Chk.mk (ptr_ok tblOk rfl rfl) ?_ | refine NilG.mk (fun _ => by kernel_rfl) ?_ | refine Chk.mk (by decide) ?_)
        rw [e1]
        repeat (first | refine SemW.run tblOk ?_ | refine IntG.nw (by omega) ?_ | refine IntG.nu8 (by omega) ?_ | refine IntG.nu32 (by omega) ?_ | refine IntG.nu64 (by omega) ?_ | refine IntG.wr' rfl ?_ | refine Chk.mk (by omega) ?_ | (refine BrG.id ?_; first | with_reducible refine BrG.t ?_ | with_reducible refine BrG.f ?_ | with_reducible refine BrG.notG ?_ | with_reducible refine BrG.nn ?_ | with_reducible refine BrG.ns ?_ | refine BrG.pos (by omega) ?_ | refine BrG.neg (by omega) ?_ | with_reducible refine BrG.pos rfl ?_ | refine BrG.pos (by assumption) ?_ | refine BrG.neg (by assumption) ?_ | refine BrG.pos (by decide) ?_ | refine BrG.neg (by decide) ?_) | refine Chk.mk (ptr_ok tblOk rfl rfl) ?_ | refine NilG.mk (fun _ => by kernel_rfl) ?_ | refine Chk.mk (by decide) ?_)
        rw [e2]
        repeat (first | refine SemW.run tblOk ?_ | refine IntG.nw (by omega) ?_ | refine IntG.nu8 (by omega) ?_ | refine IntG.nu32 (by omega) ?_ | refine IntG.nu64 (by omega) ?_ | refine IntG.wr' rfl ?_ | refine Chk.mk (by omega) ?_ | (refine BrG.id ?_; first | with_reducible refine BrG.t ?_ | with_reducible refine BrG.f ?_ | with_reducible refine BrG.notG ?_ | with_reducible refine BrG.nn ?_ | with_reducible refine BrG.ns ?_ | refine BrG.pos (by omega) ?_ | refine BrG.neg (by omega) ?_ | with_reducible refine BrG.pos rfl ?_ | refine BrG.pos (by assumption) ?_ | refine BrG.neg (by assumption) ?_ | refine BrG.pos (by decide) ?_ | refine BrG.neg (by decide) ?_) | refine Chk.mk (ptr_ok tblOk rfl rfl) ?_ | refine NilG.mk (fun _ => by kernel_rfl) ?_ | refine Chk.mk (by decide) ?_)
        exact ⟨(b + 1, m / 2), ⟨rfl, rfl, rfl, rfl, trivial⟩, ⟨⟨by simp only; omega, hm2, hbit.2⟩, hS⟩, by simp only; omega⟩
    · have hbe : b = 8 := by omega
      subst hbe
      repeat (first | refine SemW.run tblOk ?_ | refine IntG.nw (by omega) ?_ | refine IntG.nu8 (by omega) ?_ | refine IntG.nu32 (by omega) ?_ | refine IntG.nu64 (by omega) ?_ | refine IntG.wr' rfl ?_ | refine Chk.mk (by omega) ?_ | (refine BrG.id ?_; first | with_reducible refine BrG.t ?_ | with_reducible refine BrG.f ?_ | with_reducible refine BrG.notG ?_ | with_reducible refine BrG.nn ?_ | with_reducible refine BrG.ns ?_ | refine BrG.pos (by omega) ?_ | refine BrG.neg (by omega) ?_ | with_reducible refine BrG.pos rfl ?_ | refine BrG.pos (by assumption) ?_ | refine BrG.neg (by assumption) ?_ | refine BrG.pos (by decide) ?_ | refine BrG.neg (by decide) ?_) | refine Chk.mk (ptr_ok tblOk rfl rfl) ?_ | refine NilG.mk (fun _ => by kernel_rfl) ?_ | refine Chk.mk (by decide) ?_)
      exact ⟨(i + 1, m), ⟨rfl, rfl, rfl, trivial⟩, ⟨⟨by simp only; omega, by simp only; rw [hsucc]; exact hm, hml⟩, hS⟩, by simp only; omega⟩
  · have hie : i = t.length := by omega
    subst hie
    rw [List.take_length] at hn
    have hcr : crcN [t] = 4294967295 - n := by
      have : crc [t] = ((4294967295 - n : Nat) : Int) := by
        unfold crc
        rw [List.foldl_cons, List.foldl_nil, hn]
        exact crc_end n hlt
      unfold crcN
      rw [this]; exact Int.toNat_natCast _
    rw [hcr]
    repeat (first | refine SemW.run tblOk ?_ | refine IntG.nw (by omega) ?_ | refine IntG.nu8 (by omega) ?_ | refine IntG.nu32 (by omega) ?_ | refine IntG.nu64 (by omega) ?_ | refine IntG.wr' rfl ?_ | refine Chk.mk (by omega) ?_ | (refine BrG.id ?_; first | with_reducible refine BrG.t ?_ | with_reducible refine BrG.f ?_ | with_reducible refine BrG.notG ?_ | with_reducible refine BrG.nn ?_ | with_reducible refine BrG.ns ?_ | refine BrG.pos (by omega) ?_ | refine BrG.neg (by omega) ?_ | with_reducible refine BrG.pos rfl ?_ | refine BrG.pos (by assumption) ?_ | refine BrG.neg (by assumption) ?_ | refine BrG.pos (by decide) ?_ | refine BrG.neg (by decide) ?_) | refine Chk.mk (ptr_ok tblOk rfl rfl) ?_ | refine NilG.mk (fun _ => by kernel_rfl) ?_ | refine Chk.mk (by decide) ?_)
    refine ⟨?_, hS⟩
    congr 1; omega
theorem be4_num4 (l : Bytes) (h : 4 ≤ l.length) : be4 (num4 l) = l.take 4 := by
  match l, h with
  | a :: b :: c :: d :: r, _ =>
    have ha := a.toNat_lt
    have hb := b.toNat_lt
    have hc := c.toNat_lt
    have hd := d.toNat_lt
    have e : num4 (a :: b :: c :: d :: r) = (a.toNat * 2 ^ 24 + b.toNat * 2 ^ 16) + c.toNat * 2 ^ 8 + d.toNat := rfl
    rw [be4_form _, e]
    have e1 : ((a.toNat * 2 ^ 24 + b.toNat * 2 ^ 16) + c.toNat * 2 ^ 8 + d.toNat) / 16777216 = a.toNat := by omega
    have e2 : ((a.toNat * 2 ^ 24 + b.toNat * 2 ^ 16) + c.toNat * 2 ^ 8 + d.toNat) / 65536 % 256 = b.toNat := by omega
    have e3 : ((a.toNat * 2 ^ 24 + b.toNat * 2 ^ 16) + c.toNat * 2 ^ 8 + d.toNat) / 256 % 256 = c.toNat := by omega
    have e4 : ((a.toNat * 2 ^ 24 + b.toNat * 2 ^ 16) + c.toNat * 2 ^ 8 + d.toNat) % 256 = d.toNat := by omega
    rw [e1, e2, e3, e4]
    simp
theorem Frame02_spec {w : World} (p : Bytes) (hp : p.length ≤ 1000000000) : Cl Tryd.prog f_tarmacref02_Frame [Str p] w fun v w' => v = Str (frameB p) ∧ St w [] [] w' := by
  have hS := St.start w
  have hb4 : ∀ n, (be4 n).length = 4 := fun _ => rfl
  have h1 := hb4 p.length
  refine en_tarmacref02_Frame rfl ?_
  repeat (first | refine SemW.run tblOk ?_ | refine IntG.nw (by omega) ?_ | refine IntG.nu8 (by omega) ?_ | refine IntG.nu32 (by omega) ?_ | refine IntG.nu64 (by omega) ?_ | refine IntG.wr' rfl ?_ | refine Chk.mk (by omega) ?_ | (refine BrG.id ?_; first | with_reducible refine BrG.t ?_ | with_reducible refine BrG.f ?_ | with_reducible refine BrG.notG ?_ | with_reducible refine BrG.nn ?_ | with_reducible refine BrG.ns ?_ | refine BrG.pos (by omega) ?_ | refine BrG.neg (by omega) ?_ | with_reducible refine BrG.pos rfl ?_ | refine BrG.pos (by assumption) ?_ | refine BrG.neg (by assumption) ?_ | refine BrG.pos (by decide) ?_ | refine BrG.neg (by decide) ?_) | refine Chk.mk (ptr_ok tblOk rfl rfl) ?_ | refine NilG.mk (fun _ => by kernel_rfl) ?_ | refine Chk.mk (by decide) ?_)
  refine (four02_spec p.length (by omega)).mono ?_
  rintro _ w1 ⟨rfl, hS'⟩
  have hS := hS.call0 hS'
  repeat (first | refine SemW.run tblOk ?_ | refine IntG.nw (by omega) ?_ | refine IntG.nu8 (by omega) ?_ | refine IntG.nu32 (by omega) ?_ | refine IntG.nu64 (by omega) ?_ | refine IntG.wr' rfl ?_ | refine Chk.mk (by omega) ?_ | (refine BrG.id ?_; first | with_reducible refine BrG.t ?_ | with_reducible refine BrG.f ?_ | with_reducible refine BrG.notG ?_ | with_reducible refine BrG.nn ?_ | with_reducible refine BrG.ns ?_ | refine BrG.pos (by omega) ?_ | refine BrG.neg (by omega) ?_ | with_reducible refine BrG.pos rfl ?_ | refine BrG.pos (by assumption) ?_ | refine BrG.neg (by assumption) ?_ | refine BrG.pos (by decide) ?_ | refine BrG.neg (by decide) ?_) | refine Chk.mk (ptr_ok tblOk rfl rfl) ?_ | refine NilG.mk (fun _ => by kernel_rfl) ?_ | refine Chk.mk (by decide) ?_)
  refine (Sum02_spec (be4 p.length ++ p) (by rw [List.length_append]; omega)).mono ?_
  rintro _ w2 ⟨rfl, hS'⟩
  have hS := hS.call0 hS'
  have hlt := (crcN_eq [be4 p.length ++ p]).2
  rw [← crc_app] at hlt ⊢
  generalize hcc : crcN [be4 p.length, p] = cc at hlt ⊢
  have h2 := hb4 cc
  repeat (first | refine SemW.run tblOk ?_ | refine IntG.nw (by omega) ?_ | refine IntG.nu8 (by omega) ?_ | refine IntG.nu32 (by omega) ?_ | refine IntG.nu64 (by omega) ?_ | refine IntG.wr' rfl ?_ | refine Chk.mk (by omega) ?_ | (refine BrG.id ?_; first | with_reducible refine BrG.t ?_ | with_reducible refine BrG.f ?_ | with_reducible refine BrG.notG ?_ | with_reducible refine BrG.nn ?_ | with_reducible refine BrG.ns ?_ | refine BrG.pos (by omega) ?_ | refine BrG.neg (by omega) ?_ | with_reducible refine BrG.pos rfl ?_ | refine BrG.pos (by assumption) ?_ | refine BrG.neg (by assumption) ?_ | refine BrG.pos (by decide) ?_ | refine BrG.neg (by decide) ?_) | refine Chk.mk (ptr_ok tblOk rfl rfl) ?_ | refine NilG.mk (fun _ => by kernel_rfl) ?_ | refine Chk.mk (by decide) ?_)
  refine (four02_spec cc hlt).mono ?_
  rintro _ w3 ⟨rfl, hS'⟩
  have hS := hS.call0 hS'
  have h3 : (be4 p.length ++ be4 cc).length = 8 := by rw [List.length_append]; omega
  repeat (first | refine SemW.run tblOk ?_ | refine IntG.nw (by omega) ?_ | refine IntG.nu8 (by omega) ?_ | refine IntG.nu32 (by omega) ?_ | refine IntG.nu64 (by omega) ?_ | refine IntG.wr' rfl ?_ | refine Chk.mk (by omega) ?_ | (refine BrG.id ?_; first | with_reducible refine BrG.t ?_ | with_reducible refine BrG.f ?_ | with_reducible refine BrG.notG ?_ | with_reducible refine BrG.nn ?_ | with_reducible refine BrG.ns ?_ | refine BrG.pos (by omega) ?_ | refine BrG.neg (by omega) ?_ | with_reducible refine BrG.pos rfl ?_ | refine BrG.pos (by assumption) ?_ | refine BrG.neg (by assumption) ?_ | refine BrG.pos (by decide) ?_ | refine BrG.neg (by decide) ?_) | refine Chk.mk (ptr_ok tblOk rfl rfl) ?_ | refine NilG.mk (fun _ => by kernel_rfl) ?_ | refine Chk.mk (by decide) ?_)
  refine ⟨?_, hS⟩
  unfold frameB
  rw [hcc]
def pre02 (l : Bytes) : Nat → Nat
  | 0 => 0
  | k + 1 => 256 * pre02 l k + (l.getD k 0).toNat
theorem pre02_le (l : Bytes) : ∀ k, pre02 l k < 256 ^ k
  | 0 => by show 0 < 1; omega
  | k + 1 => by
    have h1 := pre02_le l k
    have h2 := (l.getD k 0).toNat_lt
    show 256 * pre02 l k + _ < _
    rw [Nat.pow_succ]; omega
theorem pre02_num (l : Bytes) : pre02 l 4 = num4 l := by
  have h : pre02 l 4 = 256 * (256 * (256 * (256 * 0 + (l.getD 0 0).toNat) + (l.getD 1 0).toNat) + (l.getD 2 0).toNat) + (l.getD 3 0).toNat := rfl
  rw [h]
  unfold num4
  omega
theorem frame_iff {l : Bytes} (n : Nat) (hn : n = num4 l) (hl : n + 8 ≤ l.length) : frameB ((l.take (8 + n)).drop 8) = l.take (8 + n) ↔ crcN [l.take 4, (l.take (8 + n)).drop 8] = num4 (l.drop 4) := by
  have hpl : ((l.take (8 + n)).drop 8).length = n := by rw [List.length_drop, List.length_take]; omega
  have hb : be4 n = l.take 4 := by rw [hn]; exact be4_num4 l (by omega)
  have hs : l.take (8 + n) = l.take 4 ++ ((l.drop 4).take 4 ++ (l.take (8 + n)).drop 8) := by
    have e1 : l.take (8 + n) = (l.take (8 + n)).take 4 ++ (l.take (8 + n)).drop 4 := (List.take_append_drop 4 _).symm
    have e2 : (l.take (8 + n)).drop 4 = ((l.take (8 + n)).drop 4).take 4 ++ ((l.take (8 + n)).drop 4).drop 4 := (List.take_append_drop 4 _).symm
    rw [List.take_take, Nat.min_eq_left (by omega)] at e1
    rw [List.drop_drop] at e2
    have e3 : ((l.take (8 + n)).drop 4).take 4 = (l.drop 4).take 4 := by
      rw [List.drop_take, List.take_take, Nat.min_eq_left (by omega)]
    rw [e3] at e2
    conv => lhs; rw [e1, e2]
  unfold frameB
  rw [hpl, hb]
  generalize hp : (l.take (8 + n)).drop 8 = p at hs
  rw [hs, List.append_assoc, List.append_right_inj, List.append_left_inj]
  have hb2 := be4_num4 (l.drop 4) (by rw [List.length_drop]; omega)
  rw [← hb2]
  constructor
  · intro h
    have := congrArg num4 h
    rwa [num4_be4 _ (crcN_eq _).2, num4_be4 _ (num4_lt _)] at this
  · intro h; rw [h]
set_option maxHeartbeats 4000000 in
theorem First02_spec {w : World} (t : Bytes) (k : Nat) (ht : t.length ≤ 1000000000) (hk : k ≤ t.length) :
    Cl Tryd.prog f_tarmacref02_First [Str t, .int .i64 k] w fun v w' => v = .tuple ⟨[Str (firstM t k).1, .int .i64 (firstM t k).2.1, .int .i64 (firstM t k).2.2]⟩ ∧ St w [] [] w' := by
  have hS := St.start w
  have hrl : (t.drop k).length = t.length - k := List.length_drop
  refine en_tarmacref02_First rfl ?_
  unfold firstM
  by_cases h1 : t.length < k + 8
  · rw [if_pos h1]
    repeat (first | refine SemW.run tblOk ?_ | refine IntG.nw (by omega) ?_ | refine IntG.nu8 (by omega) ?_ | refine IntG.nu32 (by omega) ?_ | refine IntG.nu64 (by omega) ?_ | refine IntG.wr' rfl ?_ | refine Chk.mk (by omega) ?_ | (refine BrG.id ?_; first | with_reducible refine BrG.t ?_ | with_reducible refine BrG.f ?_ | with_reducible refine BrG.notG ?_ | with_reducible refine BrG.nn ?_ | with_reducible refine BrG.ns ?_ | refine BrG.pos (by omega) ?_ | refine BrG.neg (by omega) ?_ | with_reducible refine BrG.pos rfl ?_ | refine BrG.pos (by assumption) ?_ | refine BrG.neg (by assumption) ?_ | refine BrG.pos (by decide) ?_ | refine BrG.neg (by decide) ?_) | refine Chk.mk (ptr_ok tblOk rfl rfl) ?_ | refine NilG.mk (fun _ => by kernel_rfl) ?_ | refine Chk.mk (by decide) ?_)
    exact ⟨rfl, hS⟩
  · rw [if_neg h1]
    repeat (first | refine SemW.run tblOk ?_ | refine IntG.nw (by omega) ?_ | refine IntG.nu8 (by omega) ?_ | refine IntG.nu32 (by omega) ?_ | refine IntG.nu64 (by omega) ?_ | refine IntG.wr' rfl ?_ | refine Chk.mk (by omega) ?_ | (refine BrG.id ?_; first | with_reducible refine BrG.t ?_ | with_reducible refine BrG.f ?_ | with_reducible refine BrG.notG ?_ | with_reducible refine BrG.nn ?_ | with_reducible refine BrG.ns ?_ | refine BrG.pos (by omega) ?_ | refine BrG.neg (by omega) ?_ | with_reducible refine BrG.pos rfl ?_ | refine BrG.pos (by assumption) ?_ | refine BrG.neg (by assumption) ?_ | refine BrG.pos (by decide) ?_ | refine BrG.neg (by decide) ?_) | refine Chk.mk (ptr_ok tblOk rfl rfl) ?_ | refine NilG.mk (fun _ => by kernel_rfl) ?_ | refine Chk.mk (by decide) ?_)
    refine SemW.loop (fun i : Nat => [(0, Str t), (1, .int .i64 k), (7, .int .i64 (pre02 (t.drop k) i)), (8, .int .i64 i)]) (fun i w' => i ≤ 4 ∧ St w [] [] w') (fun i => 4 - i) 0
      ⟨rfl, rfl, rfl, rfl, trivial⟩ ⟨Nat.zero_le _, hS⟩ ?_
    clear hS
    rintro i w1 ⟨hi, hS⟩
    have hpl := pre02_le (t.drop k) i
    by_cases hi4 : i < 4
    · have hpw : 256 ^ i ≤ 16777216 := Nat.pow_le_pow_right (n := 256) (i := i) (j := 3) (by omega) (by omega)
      have hsucc : pre02 (t.drop k) (i + 1) = 256 * pre02 (t.drop k) i + (t.getD (k + i) 0).toNat := by
        show 256 * pre02 (t.drop k) i + ((t.drop k).getD i 0).toNat = _
        congr 2
        simp only [List.getD_eq_getElem?_getD, List.getElem?_drop]
      have hc := (t.getD (k + i) 0).toNat_lt
      generalize pre02 (t.drop k) i = m at hpl hsucc ⊢
      repeat (first | refine SemW.run tblOk ?_ | refine IntG.nw (by omega) ?_ | refine IntG.nu8 (by omega) ?_ | refine IntG.nu32 (by omega) ?_ | refine IntG.nu64 (by omega) ?_ | refine IntG.wr' rfl ?_ | refine Chk.mk (by omega) ?_ | (refine BrG.id ?_; first | with_reducible refine BrG.t ?_ | with_reducible refine BrG.f ?_ | with_reducible refine BrG.notG ?_ | with_reducible refine BrG.nn ?_ | with_reducible refine BrG.ns ?_ | refine BrG.pos (by omega) ?_ | refine BrG.neg (by omega) ?_ | with_reducible refine BrG.pos rfl ?_ | refine BrG.pos (by assumption) ?_ | refine BrG.neg (by assumption) ?_ | refine BrG.pos (by decide) ?_ | refine BrG.neg (by decide) ?_) | refine Chk.mk (ptr_ok tblOk rfl rfl) ?_ | refine NilG.mk (fun _ => by kernel_rfl) ?_ | refine Chk.mk (by decide) ?_)
      rw [show ((k : Int) + (i : Int)).toNat = k + i by omega]
      repeat (first | refine SemW.run tblOk ?_ | refine IntG.nw (by omega) ?_ | refine IntG.nu8 (by omega) ?_ | refine IntG.nu32 (by omega) ?_ | refine IntG.nu64 (by omega) ?_ | refine IntG.wr' rfl ?_ | refine Chk.mk (by omega) ?_ | (refine BrG.id ?_; first | with_reducible refine BrG.t ?_ | with_reducible refine BrG.f ?_ | with_reducible refine BrG.notG ?_ | with_reducible refine BrG.nn ?_ | with_reducible refine BrG.ns ?_ | refine BrG.pos (by omega) ?_ | refine BrG.neg (by omega) ?_ | with_reducible refine BrG.pos rfl ?_ | refine BrG.pos (by assumption) ?_ | refine BrG.neg (by assumption) ?_ | refine BrG.pos (by decide) ?_ | refine BrG.neg (by decide) ?_) | refine Chk.mk (ptr_ok tblOk rfl rfl) ?_ | refine NilG.mk (fun _ => by kernel_rfl) ?_ | refine Chk.mk (by decide) ?_)
      exact ⟨i + 1, ⟨rfl, rfl, by show _ = Value.int .i64 _; congr 1; omega, rfl, trivial⟩, ⟨by omega, hS⟩, by omega⟩
    · have hie : i = 4 := by omega
      subst hie
      rw [pre02_num]
      have hn := num4_lt (t.drop k)
      have hfi := frame_iff (l := t.drop k) (num4 (t.drop k)) rfl
      generalize num4 (t.drop k) = n at hn hfi ⊢
      by_cases h2 : 65536 < n
      · rw [if_pos (.inl h2)]
        repeat (first | refine SemW.run tblOk ?_ | refine IntG.nw (by omega) ?_ | refine IntG.nu8 (by omega) ?_ | refine IntG.nu32 (by omega) ?_ | refine IntG.nu64 (by omega) ?_ | refine IntG.wr' rfl ?_ | refine Chk.mk (by omega) ?_ | (refine BrG.id ?_; first | with_reducible refine BrG.t ?_ | with_reducible refine BrG.f ?_ | with_reducible refine BrG.notG ?_ | with_reducible refine BrG.nn ?_ | with_reducible refine BrG.ns ?_ | refine BrG.pos (by omega) ?_ | refine BrG.neg (by omega) ?_ | with_reducible refine BrG.pos rfl ?_ | refine BrG.pos (by assumption) ?_ | refine BrG.neg (by assumption) ?_ | refine BrG.pos (by decide) ?_ | refine BrG.neg (by decide) ?_) | refine Chk.mk (ptr_ok tblOk rfl rfl) ?_ | refine NilG.mk (fun _ => by kernel_rfl) ?_ | refine Chk.mk (by decide) ?_)
        exact ⟨rfl, hS⟩
      · by_cases h3 : (t.drop k).length < n + 8
        · rw [if_pos (.inr h3)]
          repeat (first | refine SemW.run tblOk ?_ | refine IntG.nw (by omega) ?_ | refine IntG.nu8 (by omega) ?_ | refine IntG.nu32 (by omega) ?_ | refine IntG.nu64 (by omega) ?_ | refine IntG.wr' rfl ?_ | refine Chk.mk (by omega) ?_ | (refine BrG.id ?_; first | with_reducible refine BrG.t ?_ | with_reducible refine BrG.f ?_ | with_reducible refine BrG.notG ?_ | with_reducible refine BrG.nn ?_ | with_reducible refine BrG.ns ?_ | refine BrG.pos (by omega) ?_ | refine BrG.neg (by omega) ?_ | with_reducible refine BrG.pos rfl ?_ | refine BrG.pos (by assumption) ?_ | refine BrG.neg (by assumption) ?_ | refine BrG.pos (by decide) ?_ | refine BrG.neg (by decide) ?_) | refine Chk.mk (ptr_ok tblOk rfl rfl) ?_ | refine NilG.mk (fun _ => by kernel_rfl) ?_ | refine Chk.mk (by decide) ?_)
          exact ⟨rfl, hS⟩
        · rw [if_neg (by omega)]
          have hfi := hfi (by omega)
          have hsl : ((t.take (k + 8 + n)).drop (k + 8)) = ((t.drop k).take (8 + n)).drop 8 := by
            rw [List.drop_take, List.drop_take, List.drop_drop]
            congr 1; omega
          have hsl2 : ((t.take (k + 8 + n)).drop k) = (t.drop k).take (8 + n) := by
            rw [List.drop_take]; congr 1; omega
          have hpl2 : (((t.drop k).take (8 + n)).drop 8).length = n := by rw [List.length_drop, List.length_take]; omega
          repeat (first | refine SemW.run tblOk ?_ | refine IntG.nw (by omega) ?_ | refine IntG.nu8 (by omega) ?_ | refine IntG.nu32 (by omega) ?_ | refine IntG.nu64 (by omega) ?_ | refine IntG.wr' rfl ?_ | refine Chk.mk (by omega) ?_ | (refine BrG.id ?_; first | with_reducible refine BrG.t ?_ | with_reducible refine BrG.f ?_ | with_reducible refine BrG.notG ?_ | with_reducible refine BrG.nn ?_ | with_reducible refine BrG.ns ?_ | refine BrG.pos (by omega) ?_ | refine BrG.neg (by omega) ?_ | with_reducible refine BrG.pos rfl ?_ | refine BrG.pos (by assumption) ?_ | refine BrG.neg (by assumption) ?_ | refine BrG.pos (by decide) ?_ | refine BrG.neg (by decide) ?_) | refine Chk.mk (ptr_ok tblOk rfl rfl) ?_ | refine NilG.mk (fun _ => by kernel_rfl) ?_ | refine Chk.mk (by decide) ?_)
          rw [show ((k : Int) + 8 + (n : Int)).toNat = k + 8 + n by omega, show ((k : Int) + 8).toNat = k + 8 by omega, hsl]
          refine SemW.draw tblOk mixed (fun w' => St w [] [] w') [] [0, 2, 3, 4, 5, 6, 7, 8, 1, 9] (by kernel_rfl) hS.drew ?_
          have hS := hS.drew
          repeat (first | refine SemW.run tblOk ?_ | refine IntG.nw (by omega) ?_ | refine IntG.nu8 (by omega) ?_ | refine IntG.nu32 (by omega) ?_ | refine IntG.nu64 (by omega) ?_ | refine IntG.wr' rfl ?_ | refine Chk.mk (by omega) ?_ | (refine BrG.id ?_; first | with_reducible refine BrG.t ?_ | with_reducible refine BrG.f ?_ | with_reducible refine BrG.notG ?_ | with_reducible refine BrG.nn ?_ | with_reducible refine BrG.ns ?_ | refine BrG.pos (by omega) ?_ | refine BrG.neg (by omega) ?_ | with_reducible refine BrG.pos rfl ?_ | refine BrG.pos (by assumption) ?_ | refine BrG.neg (by assumption) ?_ | refine BrG.pos (by decide) ?_ | refine BrG.neg (by decide) ?_) | refine Chk.mk (ptr_ok tblOk rfl rfl) ?_ | refine NilG.mk (fun _ => by kernel_rfl) ?_ | refine Chk.mk (by decide) ?_ | refine hS.ldC rfl ?_ | refine hS.ldnC rfl ?_)
          rw [show ((k : Int) + 8 + (n : Int)).toNat = k + 8 + n by omega, show ((k : Int)).toNat = k from rfl, hsl2]
          refine (Frame02_spec _ (by rw [hpl2]; omega)).mono ?_
          rintro _ w3 ⟨rfl, hS'⟩
          have hS := hS.call0 hS'
          refine Chk.mk hS ?_
          by_cases h5 : frameB (((t.drop k).take (8 + n)).drop 8) = (t.drop k).take (8 + n)
          · rw [if_pos (hfi.1 h5)]
            repeat (first | refine SemW.run tblOk ?_ | refine IntG.nw (by omega) ?_ | refine IntG.nu8 (by omega) ?_ | refine IntG.nu32 (by omega) ?_ | refine IntG.nu64 (by omega) ?_ | refine IntG.wr' rfl ?_ | refine Chk.mk (by omega) ?_ | (refine BrG.id ?_; first | with_reducible refine BrG.t ?_ | with_reducible refine BrG.f ?_ | with_reducible refine BrG.notG ?_ | with_reducible refine BrG.nn ?_ | with_reducible refine BrG.ns ?_ | refine BrG.pos (by omega) ?_ | refine BrG.neg (by omega) ?_ | with_reducible refine BrG.pos rfl ?_ | refine BrG.pos (by assumption) ?_ | refine BrG.neg (by assumption) ?_ | refine BrG.pos (by decide) ?_ | refine BrG.neg (by decide) ?_) | refine Chk.mk (ptr_ok tblOk rfl rfl) ?_ | refine NilG.mk (fun _ => by kernel_rfl) ?_ | refine Chk.mk (by decide) ?_ | refine hS.ldC rfl ?_ | refine hS.ldnC rfl ?_)
            repeat (first | refine SemW.run tblOk ?_ | refine IntG.nw (by omega) ?_ | refine IntG.nu8 (by omega) ?_ | refine IntG.nu32 (by omega) ?_ | refine IntG.nu64 (by omega) ?_ | refine IntG.wr' rfl ?_ | refine Chk.mk (by omega) ?_ | (refine BrG.id ?_; first | with_reducible refine BrG.t ?_ | with_reducible refine BrG.f ?_ | with_reducible refine BrG.notG ?_ | with_reducible refine BrG.nn ?_ | with_reducible refine BrG.ns ?_ | refine BrG.pos (by omega) ?_ | refine BrG.neg (by omega) ?_ | with_reducible refine BrG.pos rfl ?_ | refine BrG.pos (by assumption) ?_ | refine BrG.neg (by assumption) ?_ | refine BrG.pos (by decide) ?_ | refine BrG.neg (by decide) ?_) | refine Chk.mk (ptr_ok tblOk rfl rfl) ?_ | refine NilG.mk (fun _ => by kernel_rfl) ?_ | refine Chk.mk (by decide) ?_)
            exact ⟨rfl, hS⟩
          · rw [if_neg (fun h => h5 (hfi.2 h))]
            repeat (first | refine SemW.run tblOk ?_ | refine IntG.nw (by omega) ?_ | refine IntG.nu8 (by omega) ?_ | refine IntG.nu32 (by omega) ?_ | refine IntG.nu64 (by omega) ?_ | refine IntG.wr' rfl ?_ | refine Chk.mk (by omega) ?_ | (refine BrG.id ?_; first | with_reducible refine BrG.t ?_ | with_reducible refine BrG.f ?_ | with_reducible refine BrG.notG ?_ | with_reducible refine BrG.nn ?_ | with_reducible refine BrG.ns ?_ | refine BrG.pos (by omega) ?_ | refine BrG.neg (by omega) ?_ | with_reducible refine BrG.pos rfl ?_ | refine BrG.pos (by assumption) ?_ | refine BrG.neg (by assumption) ?_ | refine BrG.pos (by decide) ?_ | refine BrG.neg (by decide) ?_) | refine Chk.mk (ptr_ok tblOk rfl rfl) ?_ | refine NilG.mk (fun _ => by kernel_rfl) ?_ | refine Chk.mk (by decide) ?_ | refine hS.ldC rfl ?_ | refine hS.ldnC rfl ?_)
            repeat (first | refine SemW.run tblOk ?_ | refine IntG.nw (by omega) ?_ | refine IntG.nu8 (by omega) ?_ | refine IntG.nu32 (by omega) ?_ | refine IntG.nu64 (by omega) ?_ | refine IntG.wr' rfl ?_ | refine Chk.mk (by omega) ?_ | (refine BrG.id ?_; first | with_reducible refine BrG.t ?_ | with_reducible refine BrG.f ?_ | with_reducible refine BrG.notG ?_ | with_reducible refine BrG.nn ?_ | with_reducible refine BrG.ns ?_ | refine BrG.pos (by omega) ?_ | refine BrG.neg (by omega) ?_ | with_reducible refine BrG.pos rfl ?_ | refine BrG.pos (by assumption) ?_ | refine BrG.neg (by assumption) ?_ | refine BrG.pos (by decide) ?_ | refine BrG.neg (by decide) ?_) | refine Chk.mk (ptr_ok tblOk rfl rfl) ?_ | refine NilG.mk (fun _ => by kernel_rfl) ?_ | refine Chk.mk (by decide) ?_)
            exact ⟨rfl, hS⟩
end Go.Proofs.YthpmmfapolcaiaaDoor

/- Plain: a text that is one frame. -/
namespace Go.Proofs.YthpmmfapolcaiaaDoor
open Go Go.Eng Go.Proofs
/-- The payload, if the text is one frame. -/
def openS (t : Bytes) : Option Bytes := if (firstM t 0).2.2 = 0 ∧ (firstM t 0).2.1 = t.length then some (firstM t 0).1 else none
theorem openS_frame {p : Bytes} (hp : p.length ≤ 65536) : openS (frameB p) = some p := by
  have h := firstM_frameC [] p hp
  rw [List.nil_append] at h
  unfold openS
  rw [show firstM (frameB p) 0 = (p, (frameB p).length, 0) from h, if_pos ⟨rfl, rfl⟩]
theorem openS_iff {t p : Bytes} : openS t = some p ↔ t = frameB p ∧ p.length ≤ 65536 := by
  constructor
  · intro h
    unfold openS at h
    split at h
    · next hc =>
      obtain ⟨h1, h2, h3, h4⟩ := firstM_good hc.1
      rw [h4] at h hc
      simp only [Option.some.injEq] at h
      rw [List.drop_zero] at *
      have hn := hc.2
      simp only [Nat.zero_add] at hn
      have ht : t.take (8 + num4 t) = t := List.take_of_length_le (by omega)
      have hf := (frame_iff (l := t) (num4 t) rfl (by omega)).2 h3
      rw [h, ht] at hf
      refine ⟨hf.symm, ?_⟩
      have := congrArg List.length hf
      rw [frameB_len] at this
      omega
    · cases h
  · rintro ⟨rfl, h⟩; exact openS_frame h
theorem frameB_inj {p q : Bytes} (hp : p.length ≤ 65536) (hq : q.length ≤ 65536) (h : frameB p = frameB q) : p = q := by
  have h1 := openS_frame hp
  rw [h, openS_frame hq] at h1
  cases h1; rfl
/-- What is cut off ahead of its end is no frame. -/
theorem openS_cut {p : Bytes} (hp : p.length ≤ 65536) {n : Nat} (hn : n < (frameB p).length) : openS ((frameB p).take n) = none := by
  cases h : openS ((frameB p).take n) with
  | none => rfl
  | some q =>
    exfalso
    obtain ⟨h1, h2⟩ := openS_iff.1 h
    have h3 := congrArg List.length h1
    rw [frameB_len] at h3
    have h4 : (firstM ((frameB p).take n) 0).2.2 = 0 ∧ (firstM ((frameB p).take n) 0).2.1 = ((frameB p).take n).length := by
      unfold openS at h
      split at h
      · next hc => exact hc
      · cases h
    have h5 := firstM_appC ((frameB p).drop n) h4.1
    rw [List.take_append_drop] at h5
    have h6 := firstM_frameC [] p hp
    rw [List.nil_append] at h6
    rw [← h5, show firstM (frameB p) 0 = (p, (frameB p).length, 0) from h6, List.length_take] at h4
    simp only at h4
    omega
theorem openS_more {p : Bytes} (hp : p.length ≤ 65536) {u : Bytes} (hu : u ≠ []) : openS (frameB p ++ u) = none := by
  have h6 := firstM_frameC [] p hp
  rw [List.nil_append] at h6
  have h6 : firstM (frameB p) 0 = (p, (frameB p).length, 0) := h6
  have h5 := firstM_appC (t := frameB p) (k := 0) u (by rw [h6])
  unfold openS
  rw [h5, h6, if_neg]
  rintro ⟨-, h⟩
  rw [List.length_append] at h
  have := List.length_pos_iff.2 hu
  simp only at h
  omega
end Go.Proofs.YthpmmfapolcaiaaDoor

/- strings.Builder over a program whose functions stand in the table of names: copyCheck, WriteString, String; frame.Seal. -/
namespace Go.Proofs.YthpmmfapolcaiaaDoor
open Go Go.Eng Go.Proofs

/-- The builder at block b holds the text s: its two cells, and its buffer. -/
inductive Bld (b : Nat) (s : List UInt8) : Heap → Prop where
  | mk (p : Value) (hp : p = .pointer none ∨ p = ptr b) (a : Option Addr) (cap : Nat) (L : Heap) (hv : Vec T_uint8 1 a s.length cap (s.map byteV) L) :
    Bld b s ((b, .cells ⟨[p, .slice a s.length cap]⟩ T_strings_Builder (0, 0)) :: L)
theorem Bld.new (b : Nat) : Bld b [] [(b, .cells ⟨[.pointer none, .slice none 0 0]⟩ T_strings_Builder (0, 0))] := Bld.mk _ (.inl rfl) none 0 [] Vec.nil

theorem run_NoEscape (v : Value) (w : World) : (callFunc f_internal_abi_NoEscape ⟨[v]⟩).run Tryd.prog w = .ok (.value v) w := by
  rw [run_callFunc_extern func_internal_abi_NoEscape (by kernel_rfl) (by kernel_rfl) (by kernel_rfl) (e := Extern.AbiNoEscape.same) (by kernel_rfl)]
  rfl
theorem und_unsafe : Tryd.prog.underlying T_unsafe_Pointer = some .unsafePointer := by kernel_rfl
theorem liesBuilder : liesAt Tryd.prog Tryd.prog.depth T_strings_Builder (2 / Tryd.prog.cellsOf T_strings_Builder) 0 T_strings_Builder 1 = true := by kernel_rfl

theorem copyCheck_spec {w : World} {b n cap : Nat} {p : Value} {a : Option Addr} {L1 : Heap} (hp : p = .pointer none ∨ p = ptr b)
    (hh : Holds ((b, .cells ⟨[p, .slice a n cap]⟩ T_strings_Builder (0, 0)) :: L1) w) :
    Cl Tryd.prog f_strings_Builder_copyCheck [ptr b] w fun v w' => v = .tuple ⟨[]⟩ ∧ St w (b :: keys L1) ((b, .cells ⟨[ptr b, .slice a n cap]⟩ T_strings_Builder (0, 0)) :: L1) w' := by
  have hS : St w (b :: keys L1) _ w := St.enter hh
  have hsh : w.shape? b = some (T_strings_Builder, 2) := by
    have := hS.mem (b := b)
    simp [World.shape?, this]
  obtain ⟨inf, hinf, -, hsz, -⟩ := info_of tblOk (t := T_strings_Builder) rfl
  refine en_strings_Builder_copyCheck rfl ?_
  rcases hp with rfl | rfl
  · repeat (first | refine SemW.run tblOk ?_ | refine IntG.nw (by omega) ?_ | refine IntG.nu8 (by omega) ?_ | refine IntG.nu32 (by omega) ?_ | refine IntG.nu64 (by omega) ?_ | refine IntG.wr' rfl ?_ | refine Chk.mk (by omega) ?_ | (refine BrG.id ?_; first | with_reducible refine BrG.t ?_ | with_reducible refine BrG.f ?_ | with_reducible refine BrG.notG ?_ | with_reducible refine BrG.nn ?_ | with_reducible refine BrG.ns ?_ | refine BrG.pos (by omega) ?_ | refine BrG.neg (by omega) ?_ | with_reducible refine BrG.pos rfl ?_ | refine BrG.pos (by assumption) ?_ | refine BrG.neg (by assumption) ?_ | refine BrG.pos (by decide) ?_ | refine BrG.neg (by decide) ?_) | refine Chk.mk (ptr_ok tblOk rfl rfl) ?_ | refine NilG.mk (fun _ => by kernel_rfl) ?_ | refine Chk.mk (by decide) ?_ | refine hS.ld rfl ?_ | refine hS.ldn rfl ?_ | (refine hS.st rfl rfl ?_; intro _ hS))
    refine RunG.of (Lib.run_to_unsafe w ⟨b, 0, none⟩ (und_of tblOk (t := T_Ptr_strings_Builder) rfl) und_unsafe hinf (by rw [hsz]; nofun) hsh (Nat.zero_lt_succ 1)) ?_
    refine Or.inr ⟨_, _, run_NoEscape _ _, ?_⟩
    refine RunG.of (Lib.run_from_unsafe w ⟨b, 0, none⟩ und_unsafe (und_of tblOk (t := T_Ptr_strings_Builder) rfl) hinf hsh liesBuilder) ?_
    repeat (first | refine SemW.run tblOk ?_ | refine IntG.nw (by omega) ?_ | refine IntG.nu8 (by omega) ?_ | refine IntG.nu32 (by omega) ?_ | refine IntG.nu64 (by omega) ?_ | refine IntG.wr' rfl ?_ | refine Chk.mk (by omega) ?_ | (refine BrG.id ?_; first | with_reducible refine BrG.t ?_ | with_reducible refine BrG.f ?_ | with_reducible refine BrG.notG ?_ | with_reducible refine BrG.nn ?_ | with_reducible refine BrG.ns ?_ | refine BrG.pos (by omega) ?_ | refine BrG.neg (by omega) ?_ | with_reducible refine BrG.pos rfl ?_ | refine BrG.pos (by assumption) ?_ | refine BrG.neg (by assumption) ?_ | refine BrG.pos (by decide) ?_ | refine BrG.neg (by decide) ?_) | refine Chk.mk (ptr_ok tblOk rfl rfl) ?_ | refine NilG.mk (fun _ => by kernel_rfl) ?_ | refine Chk.mk (by decide) ?_ | refine hS.ld rfl ?_ | refine hS.ldn rfl ?_ | (refine hS.st rfl rfl ?_; intro _ hS))
    exact ⟨rfl, hS⟩
  · repeat (first | refine SemW.run tblOk ?_ | refine IntG.nw (by omega) ?_ | refine IntG.nu8 (by omega) ?_ | refine IntG.nu32 (by omega) ?_ | refine IntG.nu64 (by omega) ?_ | refine IntG.wr' rfl ?_ | refine Chk.mk (by omega) ?_ | (refine BrG.id ?_; first | with_reducible refine BrG.t ?_ | with_reducible refine BrG.f ?_ | with_reducible refine BrG.notG ?_ | with_reducible refine BrG.nn ?_ | with_reducible refine BrG.ns ?_ | refine BrG.pos (by omega) ?_ | refine BrG.neg (by omega) ?_ | with_reducible refine BrG.pos rfl ?_ | refine BrG.pos (by assumption) ?_ | refine BrG.neg (by assumption) ?_ | refine BrG.pos (by decide) ?_ | refine BrG.neg (by decide) ?_) | refine Chk.mk (ptr_ok tblOk rfl rfl) ?_ | refine NilG.mk (fun _ => by kernel_rfl) ?_ | refine Chk.mk (by decide) ?_ | refine hS.ld rfl ?_ | refine hS.ldn rfl ?_ | (refine hS.st rfl rfl ?_; intro _ hS))
    refine PureRun.mk ⟨.bool false, fun w => ?_, ?_⟩
    · have := Lib.run_neq_ptr_same (P := Tryd.prog) w ⟨b, 0, none⟩ (und_of tblOk (t := T_Ptr_strings_Builder) rfl) hinf
      simp only [Sem.run_bind, run_eqGuard_of Tryd.prog .neq T_Ptr_strings_Builder _ _ (ptr b) (ptr b) w nofun nofun, Result.andThen_ok]
      exact this
    · repeat (first | refine SemW.run tblOk ?_ | refine IntG.nw (by omega) ?_ | refine IntG.nu8 (by omega) ?_ | refine IntG.nu32 (by omega) ?_ | refine IntG.nu64 (by omega) ?_ | refine IntG.wr' rfl ?_ | refine Chk.mk (by omega) ?_ | (refine BrG.id ?_; first | with_reducible refine BrG.t ?_ | with_reducible refine BrG.f ?_ | with_reducible refine BrG.notG ?_ | with_reducible refine BrG.nn ?_ | with_reducible refine BrG.ns ?_ | refine BrG.pos (by omega) ?_ | refine BrG.neg (by omega) ?_ | with_reducible refine BrG.pos rfl ?_ | refine BrG.pos (by assumption) ?_ | refine BrG.neg (by assumption) ?_ | refine BrG.pos (by decide) ?_ | refine BrG.neg (by decide) ?_) | refine Chk.mk (ptr_ok tblOk rfl rfl) ?_ | refine NilG.mk (fun _ => by kernel_rfl) ?_ | refine Chk.mk (by decide) ?_ | refine hS.ld rfl ?_ | refine hS.ldn rfl ?_ | (refine hS.st rfl rfl ?_; intro _ hS))
      exact ⟨rfl, hS⟩

theorem WriteString_spec {w : World} {b : Nat} {s t : List UInt8} {L : Heap} (hL : Bld b s L) (hh : Holds L w) (hlen : s.length + t.length ≤ 140737488355328) :
    Cl Tryd.prog f_strings_Builder_WriteString [ptr b, Str t] w fun v w' => v = .tuple ⟨[.int .i64 t.length, .nilIface]⟩ ∧ ∃ L', Bld b (s ++ t) L' ∧ St w (keys L) L' w' := by
  obtain ⟨p, hp, a, cap, L1, hv⟩ := hL
  refine en_strings_Builder_WriteString rfl ?_
  repeat (first | refine SemW.run tblOk ?_ | refine IntG.nw (by omega) ?_ | refine IntG.nu8 (by omega) ?_ | refine IntG.nu32 (by omega) ?_ | refine IntG.nu64 (by omega) ?_ | refine IntG.wr' rfl ?_ | refine Chk.mk (by omega) ?_ | (refine BrG.id ?_; first | with_reducible refine BrG.t ?_ | with_reducible refine BrG.f ?_ | with_reducible refine BrG.notG ?_ | with_reducible refine BrG.nn ?_ | with_reducible refine BrG.ns ?_ | refine BrG.pos (by omega) ?_ | refine BrG.neg (by omega) ?_ | with_reducible refine BrG.pos rfl ?_ | refine BrG.pos (by assumption) ?_ | refine BrG.neg (by assumption) ?_ | refine BrG.pos (by decide) ?_ | refine BrG.neg (by decide) ?_) | refine Chk.mk (ptr_ok tblOk rfl rfl) ?_ | refine NilG.mk (fun _ => by kernel_rfl) ?_ | refine Chk.mk (by decide) ?_)
  refine (copyCheck_spec hp hh).mono ?_
  rintro _ w1 ⟨rfl, hS⟩
  repeat (first | refine SemW.run tblOk ?_ | refine IntG.nw (by omega) ?_ | refine IntG.nu8 (by omega) ?_ | refine IntG.nu32 (by omega) ?_ | refine IntG.nu64 (by omega) ?_ | refine IntG.wr' rfl ?_ | refine Chk.mk (by omega) ?_ | (refine BrG.id ?_; first | with_reducible refine BrG.t ?_ | with_reducible refine BrG.f ?_ | with_reducible refine BrG.notG ?_ | with_reducible refine BrG.nn ?_ | with_reducible refine BrG.ns ?_ | refine BrG.pos (by omega) ?_ | refine BrG.neg (by omega) ?_ | with_reducible refine BrG.pos rfl ?_ | refine BrG.pos (by assumption) ?_ | refine BrG.neg (by assumption) ?_ | refine BrG.pos (by decide) ?_ | refine BrG.neg (by decide) ?_) | refine Chk.mk (ptr_ok tblOk rfl rfl) ?_ | refine NilG.mk (fun _ => by kernel_rfl) ?_ | refine Chk.mk (by decide) ?_ | refine hS.ld rfl ?_ | refine hS.ldn rfl ?_ | (refine hS.st rfl rfl ?_; intro _ hS))
  refine St.appStr tblOk rfl rfl rfl rfl rfl rfl hS hv (by show (_ + _) * 1 ≤ _; omega) (by omega) ?_
  intro a' cap' L' w2 hv' hS
  repeat (first | refine SemW.run tblOk ?_ | refine IntG.nw (by omega) ?_ | refine IntG.nu8 (by omega) ?_ | refine IntG.nu32 (by omega) ?_ | refine IntG.nu64 (by omega) ?_ | refine IntG.wr' rfl ?_ | refine Chk.mk (by omega) ?_ | (refine BrG.id ?_; first | with_reducible refine BrG.t ?_ | with_reducible refine BrG.f ?_ | with_reducible refine BrG.notG ?_ | with_reducible refine BrG.nn ?_ | with_reducible refine BrG.ns ?_ | refine BrG.pos (by omega) ?_ | refine BrG.neg (by omega) ?_ | with_reducible refine BrG.pos rfl ?_ | refine BrG.pos (by assumption) ?_ | refine BrG.neg (by assumption) ?_ | refine BrG.pos (by decide) ?_ | refine BrG.neg (by decide) ?_) | refine Chk.mk (ptr_ok tblOk rfl rfl) ?_ | refine NilG.mk (fun _ => by kernel_rfl) ?_ | refine Chk.mk (by decide) ?_ | refine hS.ld rfl ?_ | refine hS.ldn rfl ?_ | (refine hS.st rfl rfl ?_; intro _ hS))
  refine ⟨rfl, _, Bld.mk (ptr b) (.inr rfl) a' cap' L' ?_, ?_⟩
  · simpa using hv'
  · rw [List.length_append]; exact hS

theorem shape_of {w : World} {g : Nat} {l : List Value} {e : TypeId} {fz : Nat × Nat} (h : w.heap[g]? = some (.cells ⟨l⟩ e fz)) : w.shape? g = some (e, l.length) := by
  simp [World.shape?, h]
theorem cellsByte : Tryd.prog.cellsOf T_uint8 = 1 := by kernel_rfl

theorem mem_keys' {H : Heap} {p : Nat × Obj} (h : p ∈ H) : p.1 ∈ keys H := List.mem_map_of_mem h
/-- A frozen block is forgotten. -/
theorem frozen_drop {w0 w : World} {T : List Nat} {g : Nat} {o : Obj} {H : Heap} (hS : St w0 T ((g, o) :: H) w) (a : Addr) (ha : a.block = g) (n : Nat) : St w0 T H (w.freeze a n) := by
  unfold World.freeze
  split
  · exact hS.sub (List.sublist_cons_self _ _)
  · refine ⟨hS.os, hS.tape, hS.output, by simpa using hS.size, fun b hb hT => ?_, fun p hp => ?_, (List.nodup_cons.1 hS.nd).2, fun p hp => hS.fresh p (List.mem_cons_of_mem _ hp)⟩
    · have hne : g ≠ b := fun e => by subst e; exact hT (hS.fresh _ List.mem_cons_self hb)
      simp only [Array.getElem?_modify, ha]
      rw [if_neg hne]; exact hS.old b hb hT
    · have hne : g ≠ p.1 := fun e => (List.nodup_cons.1 hS.nd).1 (by have := mem_keys' hp; rw [← e] at this; exact this)
      simp only [Array.getElem?_modify, ha]
      rw [if_neg hne]; exact hS.own p (List.mem_cons_of_mem _ hp)

theorem String_spec {w : World} {b : Nat} {s : List UInt8} {L : Heap} (hL : Bld b s L) (hh : Holds L w) (hlen : s.length ≤ 140737488355328) :
    Cl Tryd.prog f_strings_Builder_String [ptr b] w fun v w' => v = Str s ∧ St w (keys L) [] w' := by
  have hS := St.enter hh
  obtain ⟨p, hp, a, cap, L1, hv⟩ := hL
  refine en_strings_Builder_String rfl ?_
  repeat (first | refine SemW.run tblOk ?_ | refine IntG.nw (by omega) ?_ | refine IntG.nu8 (by omega) ?_ | refine IntG.nu32 (by omega) ?_ | refine IntG.nu64 (by omega) ?_ | refine IntG.wr' rfl ?_ | refine Chk.mk (by omega) ?_ | (refine BrG.id ?_; first | with_reducible refine BrG.t ?_ | with_reducible refine BrG.f ?_ | with_reducible refine BrG.notG ?_ | with_reducible refine BrG.nn ?_ | with_reducible refine BrG.ns ?_ | refine BrG.pos (by omega) ?_ | refine BrG.neg (by omega) ?_ | with_reducible refine BrG.pos rfl ?_ | refine BrG.pos (by assumption) ?_ | refine BrG.neg (by assumption) ?_ | refine BrG.pos (by decide) ?_ | refine BrG.neg (by decide) ?_) | refine Chk.mk (ptr_ok tblOk rfl rfl) ?_ | refine NilG.mk (fun _ => by kernel_rfl) ?_ | refine Chk.mk (by decide) ?_)
  refine SemW.draw tblOk mixed (fun w' => St w (keys ((b, .cells ⟨[p, .slice a s.length cap]⟩ T_strings_Builder (0, 0)) :: L1)) ((b, .cells ⟨[p, .slice a s.length cap]⟩ T_strings_Builder (0, 0)) :: L1) w')
    [10, 11] [0, 1, 2, 3, 5, 6, 7, 8, 9, 4, 10, 11] (by kernel_rfl) hS.drew ?_
  repeat (first | refine SemW.run tblOk ?_ | refine IntG.nw (by omega) ?_ | refine IntG.nu8 (by omega) ?_ | refine IntG.nu32 (by omega) ?_ | refine IntG.nu64 (by omega) ?_ | refine IntG.wr' rfl ?_ | refine Chk.mk (by omega) ?_ | (refine BrG.id ?_; first | with_reducible refine BrG.t ?_ | with_reducible refine BrG.f ?_ | with_reducible refine BrG.notG ?_ | with_reducible refine BrG.nn ?_ | with_reducible refine BrG.ns ?_ | refine BrG.pos (by omega) ?_ | refine BrG.neg (by omega) ?_ | with_reducible refine BrG.pos rfl ?_ | refine BrG.pos (by assumption) ?_ | refine BrG.neg (by assumption) ?_ | refine BrG.pos (by decide) ?_ | refine BrG.neg (by decide) ?_) | refine Chk.mk (ptr_ok tblOk rfl rfl) ?_ | refine NilG.mk (fun _ => by kernel_rfl) ?_ | refine Chk.mk (by decide) ?_ | refine hS.ldC rfl ?_ | refine hS.ldnC rfl ?_)
  have hS := hS.drew
  generalize w.drew = w1 at hS ⊢
  -- the pointer to the bytes
  by_cases hs : s = []
  · subst hs
    have key : ∃ q w2, (Builtin.unsafeSliceData_ ⟨[T_Sl_uint8]⟩ T_Ptr_uint8 ⟨[.slice a 0 cap]⟩).run Tryd.prog w1 = .ok (.pointer q) w2 ∧ St w (keys ((b, .cells ⟨[p, .slice a 0 cap]⟩ T_strings_Builder (0, 0)) :: L1)) ((b, .cells ⟨[p, .slice a 0 cap]⟩ T_strings_Builder (0, 0)) :: L1) w2 := by
      cases hv with
      | nil => exact ⟨none, w1, rfl, hS⟩
      | row g n cap xs l hx hl hn =>
        by_cases hc : cap = 0
        · subst hc
          exact ⟨_, _, Lib.run_unsafeSliceData_zero w1 _ _ _ (und_of tblOk (t := T_Ptr_uint8) rfl) _ _ _ (shape_of (hS.mem (b := g))), (hS.alloc _).sub (List.sublist_cons_self _ _)⟩
        · exact ⟨_, w1, Lib.run_unsafeSliceData_row (P := Tryd.prog) w1 _ _ _ _ _ hc, hS⟩
    obtain ⟨q, w2, h1, hS⟩ := key
    refine RunG.of h1 ?_
    refine Chk.mk hS ?_
    refine RunG.of (Lib.run_unsafeString_none (P := Tryd.prog) w2 _ _ _ q) ?_
    repeat (first | refine SemW.run tblOk ?_ | refine IntG.nw (by omega) ?_ | refine IntG.nu8 (by omega) ?_ | refine IntG.nu32 (by omega) ?_ | refine IntG.nu64 (by omega) ?_ | refine IntG.wr' rfl ?_ | refine Chk.mk (by omega) ?_ | (refine BrG.id ?_; first | with_reducible refine BrG.t ?_ | with_reducible refine BrG.f ?_ | with_reducible refine BrG.notG ?_ | with_reducible refine BrG.nn ?_ | with_reducible refine BrG.ns ?_ | refine BrG.pos (by omega) ?_ | refine BrG.neg (by omega) ?_ | with_reducible refine BrG.pos rfl ?_ | refine BrG.pos (by assumption) ?_ | refine BrG.neg (by assumption) ?_ | refine BrG.pos (by decide) ?_ | refine BrG.neg (by decide) ?_) | refine Chk.mk (ptr_ok tblOk rfl rfl) ?_ | refine NilG.mk (fun _ => by kernel_rfl) ?_ | refine Chk.mk (by decide) ?_)
    exact ⟨rfl, hS.nil⟩
  · rcases hv.inv with ⟨-, h0, -⟩ | ⟨g, l, rfl, hx, hl, hn, rfl⟩
    · exact absurd (List.length_eq_zero_iff.1 h0) hs
    · have hs0 : 0 < s.length := List.length_pos_iff.2 hs
      have hcap : cap ≠ 0 := by omega
      refine RunG.of (Lib.run_unsafeSliceData_row (P := Tryd.prog) w1 _ _ ⟨g, 0, none⟩ s.length cap hcap) ?_
      refine Chk.mk hS ?_
      refine RunG.of (Lib.run_unsafeString_row (P := Tryd.prog) w1 _ _ _ T_uint8 (und_of tblOk (t := T_Ptr_uint8) rfl) cellsByte g _ (shape_of (hS.mem (b := g))) s hs (by simp) (by omega) ?_) ?_
      · intro j x hx
        rw [Addr.add_eq, Nat.zero_add]
        refine hS.cell ?_
        have hlt : j < s.length := (List.getElem?_eq_some_iff.1 hx).1
        rw [List.getElem?_append_left (by simpa using hlt)]
        simp [hx, byteV]
      · repeat (first | refine SemW.run tblOk ?_ | refine IntG.nw (by omega) ?_ | refine IntG.nu8 (by omega) ?_ | refine IntG.nu32 (by omega) ?_ | refine IntG.nu64 (by omega) ?_ | refine IntG.wr' rfl ?_ | refine Chk.mk (by omega) ?_ | (refine BrG.id ?_; first | with_reducible refine BrG.t ?_ | with_reducible refine BrG.f ?_ | with_reducible refine BrG.notG ?_ | with_reducible refine BrG.nn ?_ | with_reducible refine BrG.ns ?_ | refine BrG.pos (by omega) ?_ | refine BrG.neg (by omega) ?_ | with_reducible refine BrG.pos rfl ?_ | refine BrG.pos (by assumption) ?_ | refine BrG.neg (by assumption) ?_ | refine BrG.pos (by decide) ?_ | refine BrG.neg (by decide) ?_) | refine Chk.mk (ptr_ok tblOk rfl rfl) ?_ | refine NilG.mk (fun _ => by kernel_rfl) ?_ | refine Chk.mk (by decide) ?_)
        refine ⟨rfl, ?_⟩
        exact (frozen_drop (hS.perm (List.Perm.swap _ _ _)) ⟨g, 0, none⟩ rfl s.length).nil
set_option maxHeartbeats 1000000 in
theorem Seal_spec {w : World} {a : Option Addr} {cap : Nat} {ps : List (List UInt8)} (hlen : sumLen ps + 8 * ps.length ≤ 140737488355328) (ha : Arr w [] a (ps.map Str)) :
    Cl Tryd.prog f_frame_Seal [.slice a ps.length cap] w fun v w' => v = .tuple ⟨if okLens ps then [Str (sealB ps), .int .i64 0] else [Str [], .int .i64 2]⟩ ∧ St w [] [] w' := by
  have hS := St.start w
  refine en_frame_Seal rfl ?_
  repeat (first | refine SemW.run tblOk ?_ | refine IntG.nw (by omega) ?_ | refine IntG.nu8 (by omega) ?_ | refine IntG.nu32 (by omega) ?_ | refine IntG.nu64 (by omega) ?_ | refine IntG.wr' rfl ?_ | refine Chk.mk (by omega) ?_ | (refine BrG.id ?_; first | with_reducible refine BrG.t ?_ | with_reducible refine BrG.f ?_ | with_reducible refine BrG.notG ?_ | with_reducible refine BrG.nn ?_ | with_reducible refine BrG.ns ?_ | refine BrG.pos (by omega) ?_ | refine BrG.neg (by omega) ?_ | with_reducible refine BrG.pos rfl ?_ | refine BrG.pos (by assumption) ?_ | refine BrG.neg (by assumption) ?_ | refine BrG.pos (by decide) ?_ | refine BrG.neg (by decide) ?_) | refine Chk.mk (ptr_ok tblOk rfl rfl) ?_ | refine NilG.mk (fun _ => by kernel_rfl) ?_ | refine Chk.mk (by decide) ?_)
  refine hS.al ?_
  intro b w1 hb hS
  repeat (first | refine SemW.run tblOk ?_ | refine IntG.nw (by omega) ?_ | refine IntG.nu8 (by omega) ?_ | refine IntG.nu32 (by omega) ?_ | refine IntG.nu64 (by omega) ?_ | refine IntG.wr' rfl ?_ | refine Chk.mk (by omega) ?_ | (refine BrG.id ?_; first | with_reducible refine BrG.t ?_ | with_reducible refine BrG.f ?_ | with_reducible refine BrG.notG ?_ | with_reducible refine BrG.nn ?_ | with_reducible refine BrG.ns ?_ | refine BrG.pos (by omega) ?_ | refine BrG.neg (by omega) ?_ | with_reducible refine BrG.pos rfl ?_ | refine BrG.pos (by assumption) ?_ | refine BrG.neg (by assumption) ?_ | refine BrG.pos (by decide) ?_ | refine BrG.neg (by decide) ?_) | refine Chk.mk (ptr_ok tblOk rfl rfl) ?_ | refine NilG.mk (fun _ => by kernel_rfl) ?_ | refine Chk.mk (by decide) ?_)
  refine SemW.loop (fun k : Nat => [(8, .slice a ps.length cap), (9, .int .i64 ps.length), (10, .int .i64 k), (4, ptr b)]) (fun k w' => k ≤ ps.length ∧ (∀ j, (h : j < ps.length) → j < k → ps[j].length ≤ 65536) ∧ ∃ L, Bld b (sealB (ps.take k)) L ∧ St w [] L w') (fun k => ps.length - k) 0
    ⟨rfl, rfl, rfl, rfl, trivial⟩ ⟨Nat.zero_le _, fun _ _ h => absurd h (Nat.not_lt_zero _), _, Bld.new b, hS⟩ ?_
  rintro k w2 ⟨hk, hall, L, hB, hS⟩
  by_cases hkl : k < ps.length
  · have h1 := sumLen_take ps k hkl
    have h2 := sumLen_take_le ps (k + 1)
    have h3 := sealB_len (ps.take k)
    have h4 : (ps.take k).length = k := by simp; omega
    obtain ⟨b', off', rfl, -, hck⟩ := ha.get (j := k) (by simp; omega)
    simp only [List.getElem_map] at hck
    repeat (first | refine SemW.run tblOk ?_ | refine IntG.nw (by omega) ?_ | refine IntG.nu8 (by omega) ?_ | refine IntG.nu32 (by omega) ?_ | refine IntG.nu64 (by omega) ?_ | refine IntG.wr' rfl ?_ | refine Chk.mk (by omega) ?_ | (refine BrG.id ?_; first | with_reducible refine BrG.t ?_ | with_reducible refine BrG.f ?_ | with_reducible refine BrG.notG ?_ | with_reducible refine BrG.nn ?_ | with_reducible refine BrG.ns ?_ | refine BrG.pos (by omega) ?_ | refine BrG.neg (by omega) ?_ | with_reducible refine BrG.pos rfl ?_ | refine BrG.pos (by assumption) ?_ | refine BrG.neg (by assumption) ?_ | refine BrG.pos (by decide) ?_ | refine BrG.neg (by decide) ?_) | refine Chk.mk (ptr_ok tblOk rfl rfl) ?_ | refine NilG.mk (fun _ => by kernel_rfl) ?_ | refine Chk.mk (by decide) ?_)
    refine hS.ldOld (by simp) (by simpa using hck) ?_
    repeat (first | refine SemW.run tblOk ?_ | refine IntG.nw (by omega) ?_ | refine IntG.nu8 (by omega) ?_ | refine IntG.nu32 (by omega) ?_ | refine IntG.nu64 (by omega) ?_ | refine IntG.wr' rfl ?_ | refine Chk.mk (by omega) ?_ | (refine BrG.id ?_; first | with_reducible refine BrG.t ?_ | with_reducible refine BrG.f ?_ | with_reducible refine BrG.notG ?_ | with_reducible refine BrG.nn ?_ | with_reducible refine BrG.ns ?_ | refine BrG.pos (by omega) ?_ | refine BrG.neg (by omega) ?_ | with_reducible refine BrG.pos rfl ?_ | refine BrG.pos (by assumption) ?_ | refine BrG.neg (by assumption) ?_ | refine BrG.pos (by decide) ?_ | refine BrG.neg (by decide) ?_) | refine Chk.mk (ptr_ok tblOk rfl rfl) ?_ | refine NilG.mk (fun _ => by kernel_rfl) ?_ | refine Chk.mk (by decide) ?_)
    refine BrG.dec (fun h => ?_) (fun h => ?_)
    · repeat (first | refine SemW.run tblOk ?_ | refine IntG.nw (by omega) ?_ | refine IntG.nu8 (by omega) ?_ | refine IntG.nu32 (by omega) ?_ | refine IntG.nu64 (by omega) ?_ | refine IntG.wr' rfl ?_ | refine Chk.mk (by omega) ?_ | (refine BrG.id ?_; first | with_reducible refine BrG.t ?_ | with_reducible refine BrG.f ?_ | with_reducible refine BrG.notG ?_ | with_reducible refine BrG.nn ?_ | with_reducible refine BrG.ns ?_ | refine BrG.pos (by omega) ?_ | refine BrG.neg (by omega) ?_ | with_reducible refine BrG.pos rfl ?_ | refine BrG.pos (by assumption) ?_ | refine BrG.neg (by assumption) ?_ | refine BrG.pos (by decide) ?_ | refine BrG.neg (by decide) ?_) | refine Chk.mk (ptr_ok tblOk rfl rfl) ?_ | refine NilG.mk (fun _ => by kernel_rfl) ?_ | refine Chk.mk (by decide) ?_)
      have : okLens ps = false := by
        cases hok : okLens ps with
        | false => rfl
        | true =>
          have := of_decide_eq_true (List.all_eq_true.1 hok ps[k] (List.getElem_mem _))
          omega
      rw [this]
      exact ⟨rfl, hS.nil⟩
    · repeat (first | refine SemW.run tblOk ?_ | refine IntG.nw (by omega) ?_ | refine IntG.nu8 (by omega) ?_ | refine IntG.nu32 (by omega) ?_ | refine IntG.nu64 (by omega) ?_ | refine IntG.wr' rfl ?_ | refine Chk.mk (by omega) ?_ | (refine BrG.id ?_; first | with_reducible refine BrG.t ?_ | with_reducible refine BrG.f ?_ | with_reducible refine BrG.notG ?_ | with_reducible refine BrG.nn ?_ | with_reducible refine BrG.ns ?_ | refine BrG.pos (by omega) ?_ | refine BrG.neg (by omega) ?_ | with_reducible refine BrG.pos rfl ?_ | refine BrG.pos (by assumption) ?_ | refine BrG.neg (by assumption) ?_ | refine BrG.pos (by decide) ?_ | refine BrG.neg (by decide) ?_) | refine Chk.mk (ptr_ok tblOk rfl rfl) ?_ | refine NilG.mk (fun _ => by kernel_rfl) ?_ | refine Chk.mk (by decide) ?_)
      refine (four_spec ps[k].length).mono ?_
      rintro _ w3 ⟨rfl, hS'⟩
      have hS := hS.call0 hS'
      repeat (first | refine SemW.run tblOk ?_ | refine IntG.nw (by omega) ?_ | refine IntG.nu8 (by omega) ?_ | refine IntG.nu32 (by omega) ?_ | refine IntG.nu64 (by omega) ?_ | refine IntG.wr' rfl ?_ | refine Chk.mk (by omega) ?_ | (refine BrG.id ?_; first | with_reducible refine BrG.t ?_ | with_reducible refine BrG.f ?_ | with_reducible refine BrG.notG ?_ | with_reducible refine BrG.nn ?_ | with_reducible refine BrG.ns ?_ | refine BrG.pos (by omega) ?_ | refine BrG.neg (by omega) ?_ | with_reducible refine BrG.pos rfl ?_ | refine BrG.pos (by assumption) ?_ | refine BrG.neg (by assumption) ?_ | refine BrG.pos (by decide) ?_ | refine BrG.neg (by decide) ?_) | refine Chk.mk (ptr_ok tblOk rfl rfl) ?_ | refine NilG.mk (fun _ => by kernel_rfl) ?_ | refine Chk.mk (by decide) ?_)
      refine hS.al ?_
      intro b2 w4 hb2 hS
      refine (Sum_spec (ps := [be4 ps[k].length, ps[k]]) (by simp) (by simp [be4]; omega) (hS.arr (b := b2) (by simp))).mono ?_
      rintro _ w5 ⟨rfl, hS'⟩
      have hS := (hS.call0 hS').sub (List.sublist_cons_self _ _)
      repeat (first | refine SemW.run tblOk ?_ | refine IntG.nw (by omega) ?_ | refine IntG.nu8 (by omega) ?_ | refine IntG.nu32 (by omega) ?_ | refine IntG.nu64 (by omega) ?_ | refine IntG.wr' rfl ?_ | refine Chk.mk (by omega) ?_ | (refine BrG.id ?_; first | with_reducible refine BrG.t ?_ | with_reducible refine BrG.f ?_ | with_reducible refine BrG.notG ?_ | with_reducible refine BrG.nn ?_ | with_reducible refine BrG.ns ?_ | refine BrG.pos (by omega) ?_ | refine BrG.neg (by omega) ?_ | with_reducible refine BrG.pos rfl ?_ | refine BrG.pos (by assumption) ?_ | refine BrG.neg (by assumption) ?_ | refine BrG.pos (by decide) ?_ | refine BrG.neg (by decide) ?_) | refine Chk.mk (ptr_ok tblOk rfl rfl) ?_ | refine NilG.mk (fun _ => by kernel_rfl) ?_ | refine Chk.mk (by decide) ?_)
      refine (four_spec (crcN [be4 ps[k].length, ps[k]])).mono ?_
      rintro _ w6 ⟨rfl, hS'⟩
      have hS := hS.call0 hS'
      refine Chk.mk (by simp [be4]) ?_
      refine (WriteString_spec hB hS.holds (by simp [be4]; omega)).mono ?_
      rintro _ w7 ⟨rfl, L2, hB, hS'⟩
      have hS := hS.call hS'
      repeat (first | refine SemW.run tblOk ?_ | refine IntG.nw (by omega) ?_ | refine IntG.nu8 (by omega) ?_ | refine IntG.nu32 (by omega) ?_ | refine IntG.nu64 (by omega) ?_ | refine IntG.wr' rfl ?_ | refine Chk.mk (by omega) ?_ | (refine BrG.id ?_; first | with_reducible refine BrG.t ?_ | with_reducible refine BrG.f ?_ | with_reducible refine BrG.notG ?_ | with_reducible refine BrG.nn ?_ | with_reducible refine BrG.ns ?_ | refine BrG.pos (by omega) ?_ | refine BrG.neg (by omega) ?_ | with_reducible refine BrG.pos rfl ?_ | refine BrG.pos (by assumption) ?_ | refine BrG.neg (by assumption) ?_ | refine BrG.pos (by decide) ?_ | refine BrG.neg (by decide) ?_) | refine Chk.mk (ptr_ok tblOk rfl rfl) ?_ | refine NilG.mk (fun _ => by kernel_rfl) ?_ | refine Chk.mk (by decide) ?_)
      refine (WriteString_spec hB hS.holds (by simp [be4]; omega)).mono ?_
      rintro _ w8 ⟨rfl, L3, hB, hS'⟩
      have hS := hS.call hS'
      repeat (first | refine SemW.run tblOk ?_ | refine IntG.nw (by omega) ?_ | refine IntG.nu8 (by omega) ?_ | refine IntG.nu32 (by omega) ?_ | refine IntG.nu64 (by omega) ?_ | refine IntG.wr' rfl ?_ | refine Chk.mk (by omega) ?_ | (refine BrG.id ?_; first | with_reducible refine BrG.t ?_ | with_reducible refine BrG.f ?_ | with_reducible refine BrG.notG ?_ | with_reducible refine BrG.nn ?_ | with_reducible refine BrG.ns ?_ | refine BrG.pos (by omega) ?_ | refine BrG.neg (by omega) ?_ | with_reducible refine BrG.pos rfl ?_ | refine BrG.pos (by assumption) ?_ | refine BrG.neg (by assumption) ?_ | refine BrG.pos (by decide) ?_ | refine BrG.neg (by decide) ?_) | refine Chk.mk (ptr_ok tblOk rfl rfl) ?_ | refine NilG.mk (fun _ => by kernel_rfl) ?_ | refine Chk.mk (by decide) ?_)
      refine ⟨k + 1, ⟨rfl, rfl, rfl, rfl, trivial⟩, ⟨by omega, fun j hj hjk => ?_, L3, ?_, hS⟩, by omega⟩
      · by_cases hjk' : j = k
        · subst hjk'; omega
        · exact hall j hj (by omega)
      · rw [sealB_succ ps k hkl]
        simpa [frameB, List.append_assoc] using hB
  · have hke : k = ps.length := by omega
    subst hke
    rw [List.take_length] at hB
    have h3 := sealB_len ps
    repeat (first | refine SemW.run tblOk ?_ | refine IntG.nw (by omega) ?_ | refine IntG.nu8 (by omega) ?_ | refine IntG.nu32 (by omega) ?_ | refine IntG.nu64 (by omega) ?_ | refine IntG.wr' rfl ?_ | refine Chk.mk (by omega) ?_ | (refine BrG.id ?_; first | with_reducible refine BrG.t ?_ | with_reducible refine BrG.f ?_ | with_reducible refine BrG.notG ?_ | with_reducible refine BrG.nn ?_ | with_reducible refine BrG.ns ?_ | refine BrG.pos (by omega) ?_ | refine BrG.neg (by omega) ?_ | with_reducible refine BrG.pos rfl ?_ | refine BrG.pos (by assumption) ?_ | refine BrG.neg (by assumption) ?_ | refine BrG.pos (by decide) ?_ | refine BrG.neg (by decide) ?_) | refine Chk.mk (ptr_ok tblOk rfl rfl) ?_ | refine NilG.mk (fun _ => by kernel_rfl) ?_ | refine Chk.mk (by decide) ?_)
    refine (String_spec hB hS.holds (by omega)).mono ?_
    rintro _ w3 ⟨rfl, hS'⟩
    have hS := hS.call hS'
    repeat (first | refine SemW.run tblOk ?_ | refine IntG.nw (by omega) ?_ | refine IntG.nu8 (by omega) ?_ | refine IntG.nu32 (by omega) ?_ | refine IntG.nu64 (by omega) ?_ | refine IntG.wr' rfl ?_ | refine Chk.mk (by omega) ?_ | (refine BrG.id ?_; first | with_reducible refine BrG.t ?_ | with_reducible refine BrG.f ?_ | with_reducible refine BrG.notG ?_ | with_reducible refine BrG.nn ?_ | with_reducible refine BrG.ns ?_ | refine BrG.pos (by omega) ?_ | refine BrG.neg (by omega) ?_ | with_reducible refine BrG.pos rfl ?_ | refine BrG.pos (by assumption) ?_ | refine BrG.neg (by assumption) ?_ | refine BrG.pos (by decide) ?_ | refine BrG.neg (by decide) ?_) | refine Chk.mk (ptr_ok tblOk rfl rfl) ?_ | refine NilG.mk (fun _ => by kernel_rfl) ?_ | refine Chk.mk (by decide) ?_)
    have : okLens ps = true := List.all_eq_true.2 fun p hp => by
      obtain ⟨j, hj, rfl⟩ := List.getElem_of_mem hp
      exact decide_eq_true (hall j hj hj)
    rw [this]
    exact ⟨rfl, hS⟩

end Go.Proofs.YthpmmfapolcaiaaDoor

/- Package wire: open, seal, ReadCommand. -/
namespace Go.Eng
open Go
theorem Holds.same {L : Heap} {w w' : World} (hh : Holds L w) (hS : St w (keys L) L w') : St w [] [] w' := by
  refine ⟨hS.os, hS.tape, hS.output, hS.size, fun b hb _ => ?_, by simp, by simp [keys], by simp⟩
  by_cases h : b ∈ keys L
  · obtain ⟨p, hp, rfl⟩ := List.mem_map.1 h
    rw [hS.own p hp, hh.own p hp]
  · exact hS.old b hb h
theorem Holds.keep {L H : Heap} {w w' : World} (hh : Holds L w) (hS : St w [] H w') : Holds L w' := ⟨fun p hp => hS.oldBlock (by simp) (hh.own p hp), hh.nd⟩
end Go.Eng
namespace Go.Proofs.YthpmmfapolcaiaaDoor
open Go Go.Eng Go.Proofs
def OpenPost (o : Option Bytes) (v : Value) (w w' : World) : Prop := match o with
  | none => v = .tuple ⟨[.pointer none, .int .i64 34]⟩ ∧ St w [] [] w'
  | some p => ∃ rr rb, v = .tuple ⟨[ptr rr, .int .i64 0]⟩ ∧ St w [] (rdH rr rb ⟨p, false⟩) w'
theorem firstM_err (t : Bytes) (k : Nat) : (firstM t k).2.2 = 0 ∨ (firstM t k).2.2 = 1 := by
  unfold firstM
  split
  · exact .inr rfl
  · split
    · exact .inr rfl
    · split
      · exact .inl rfl
      · exact .inr rfl
theorem open_spec {w : World} {t : Bytes} (ht : t.length ≤ 140737488355328) : Cl Tryd.prog f_wire_open [Str t] w fun v w' => OpenPost (openS t) v w w' := by
  have hS := St.start w
  have he := firstM_err t 0
  refine en_wire_open rfl ?_
  repeat (first | refine SemW.run tblOk ?_ | refine IntG.nw (by omega) ?_ | refine IntG.nu8 (by omega) ?_ | refine IntG.nu32 (by omega) ?_ | refine IntG.nu64 (by omega) ?_ | refine IntG.wr' rfl ?_ | refine Chk.mk (by omega) ?_ | (refine BrG.id ?_; first | with_reducible refine BrG.t ?_ | with_reducible refine BrG.f ?_ | with_reducible refine BrG.notG ?_ | with_reducible refine BrG.nn ?_ | with_reducible refine BrG.ns ?_ | refine BrG.pos (by omega) ?_ | refine BrG.neg (by omega) ?_ | with_reducible refine BrG.pos rfl ?_ | refine BrG.pos (by assumption) ?_ | refine BrG.neg (by assumption) ?_ | refine BrG.pos (by decide) ?_ | refine BrG.neg (by decide) ?_) | refine Chk.mk (ptr_ok tblOk rfl rfl) ?_ | refine NilG.mk (fun _ => by kernel_rfl) ?_ | refine Chk.mk (by decide) ?_)
  refine Cl.mono (First_spec t 0 ht (Nat.zero_le _)) ?_
  rintro _ w1 ⟨rfl, hS'⟩
  have hS := hS.call0 hS'
  unfold openS
  generalize firstM t 0 = x at hS he ⊢
  obtain ⟨p, e, er⟩ := x
  simp only at he ⊢
  rcases he with rfl | rfl
  · by_cases hl : e = t.length
    · rw [if_pos ⟨rfl, hl⟩]
      repeat (first | refine SemW.run tblOk ?_ | refine IntG.nw (by omega) ?_ | refine IntG.nu8 (by omega) ?_ | refine IntG.nu32 (by omega) ?_ | refine IntG.nu64 (by omega) ?_ | refine IntG.wr' rfl ?_ | refine Chk.mk (by omega) ?_ | (refine BrG.id ?_; first | with_reducible refine BrG.t ?_ | with_reducible refine BrG.f ?_ | with_reducible refine BrG.notG ?_ | with_reducible refine BrG.nn ?_ | with_reducible refine BrG.ns ?_ | refine BrG.pos (by omega) ?_ | refine BrG.neg (by omega) ?_ | with_reducible refine BrG.pos rfl ?_ | refine BrG.pos (by assumption) ?_ | refine BrG.neg (by assumption) ?_ | refine BrG.pos (by decide) ?_ | refine BrG.neg (by decide) ?_) | refine Chk.mk (ptr_ok tblOk rfl rfl) ?_ | refine NilG.mk (fun _ => by kernel_rfl) ?_ | refine Chk.mk (by decide) ?_)
      refine Cl.mono PRead_spec ?_
      rintro _ w2 ⟨rb, rfl, hS'⟩
      have hS := hS.callNew hS'
      repeat (first | refine SemW.run tblOk ?_ | refine IntG.nw (by omega) ?_ | refine IntG.nu8 (by omega) ?_ | refine IntG.nu32 (by omega) ?_ | refine IntG.nu64 (by omega) ?_ | refine IntG.wr' rfl ?_ | refine Chk.mk (by omega) ?_ | (refine BrG.id ?_; first | with_reducible refine BrG.t ?_ | with_reducible refine BrG.f ?_ | with_reducible refine BrG.notG ?_ | with_reducible refine BrG.nn ?_ | with_reducible refine BrG.ns ?_ | refine BrG.pos (by omega) ?_ | refine BrG.neg (by omega) ?_ | with_reducible refine BrG.pos rfl ?_ | refine BrG.pos (by assumption) ?_ | refine BrG.neg (by assumption) ?_ | refine BrG.pos (by decide) ?_ | refine BrG.neg (by decide) ?_) | refine Chk.mk (ptr_ok tblOk rfl rfl) ?_ | refine NilG.mk (fun _ => by kernel_rfl) ?_ | refine Chk.mk (by decide) ?_ | refine hS.ld rfl ?_ | refine hS.ldn rfl ?_ | (refine hS.st rfl rfl ?_; intro _ hS))
      refine hS.al ?_
      intro rr w3 _ hS
      repeat (first | refine SemW.run tblOk ?_ | refine IntG.nw (by omega) ?_ | refine IntG.nu8 (by omega) ?_ | refine IntG.nu32 (by omega) ?_ | refine IntG.nu64 (by omega) ?_ | refine IntG.wr' rfl ?_ | refine Chk.mk (by omega) ?_ | (refine BrG.id ?_; first | with_reducible refine BrG.t ?_ | with_reducible refine BrG.f ?_ | with_reducible refine BrG.notG ?_ | with_reducible refine BrG.nn ?_ | with_reducible refine BrG.ns ?_ | refine BrG.pos (by omega) ?_ | refine BrG.neg (by omega) ?_ | with_reducible refine BrG.pos rfl ?_ | refine BrG.pos (by assumption) ?_ | refine BrG.neg (by assumption) ?_ | refine BrG.pos (by decide) ?_ | refine BrG.neg (by decide) ?_) | refine Chk.mk (ptr_ok tblOk rfl rfl) ?_ | refine NilG.mk (fun _ => by kernel_rfl) ?_ | refine Chk.mk (by decide) ?_)
      exact ⟨rr, rb, rfl, hS⟩
    · rw [if_neg (fun h => hl h.2)]
      repeat (first | refine SemW.run tblOk ?_ | refine IntG.nw (by omega) ?_ | refine IntG.nu8 (by omega) ?_ | refine IntG.nu32 (by omega) ?_ | refine IntG.nu64 (by omega) ?_ | refine IntG.wr' rfl ?_ | refine Chk.mk (by omega) ?_ | (refine BrG.id ?_; first | with_reducible refine BrG.t ?_ | with_reducible refine BrG.f ?_ | with_reducible refine BrG.notG ?_ | with_reducible refine BrG.nn ?_ | with_reducible refine BrG.ns ?_ | refine BrG.pos (by omega) ?_ | refine BrG.neg (by omega) ?_ | with_reducible refine BrG.pos rfl ?_ | refine BrG.pos (by assumption) ?_ | refine BrG.neg (by assumption) ?_ | refine BrG.pos (by decide) ?_ | refine BrG.neg (by decide) ?_) | refine Chk.mk (ptr_ok tblOk rfl rfl) ?_ | refine NilG.mk (fun _ => by kernel_rfl) ?_ | refine Chk.mk (by decide) ?_)
      exact ⟨rfl, hS⟩
  · rw [if_neg (by rintro ⟨h, -⟩; cases h)]
    repeat (first | refine SemW.run tblOk ?_ | refine IntG.nw (by omega) ?_ | refine IntG.nu8 (by omega) ?_ | refine IntG.nu32 (by omega) ?_ | refine IntG.nu64 (by omega) ?_ | refine IntG.wr' rfl ?_ | refine Chk.mk (by omega) ?_ | (refine BrG.id ?_; first | with_reducible refine BrG.t ?_ | with_reducible refine BrG.f ?_ | with_reducible refine BrG.notG ?_ | with_reducible refine BrG.nn ?_ | with_reducible refine BrG.ns ?_ | refine BrG.pos (by omega) ?_ | refine BrG.neg (by omega) ?_ | with_reducible refine BrG.pos rfl ?_ | refine BrG.pos (by assumption) ?_ | refine BrG.neg (by assumption) ?_ | refine BrG.pos (by decide) ?_ | refine BrG.neg (by decide) ?_) | refine Chk.mk (ptr_ok tblOk rfl rfl) ?_ | refine NilG.mk (fun _ => by kernel_rfl) ?_ | refine Chk.mk (by decide) ?_)
    exact ⟨rfl, hS⟩
theorem sealB_one (p : Bytes) : sealB [p] = frameB p := by simp [sealB]
theorem okLens_one (p : Bytes) : okLens [p] = decide (p.length ≤ 65536) := by simp [okLens]
set_option maxHeartbeats 1000000 in
theorem wseal_spec {w : World} {pb : Nat} {bs : Bytes} {L : Heap} (hW : PackW pb bs L) (hh : Holds L w) (hlen : bs.length ≤ 70368744177664) :
    Cl Tryd.prog f_wire_writer_seal [wrV pb] w fun v w' => v = .tuple ⟨if bs.length ≤ 65536 then [Str (frameB bs), .int .i64 0] else [Str [], .int .i64 34]⟩ ∧ St w [] [] w' := by
  have hS := St.start w
  have hsl : sumLen [bs] = bs.length := by simp [sumLen]
  refine en_wire_writer_seal rfl ?_
  repeat (first | refine SemW.run tblOk ?_ | refine IntG.nw (by omega) ?_ | refine IntG.nu8 (by omega) ?_ | refine IntG.nu32 (by omega) ?_ | refine IntG.nu64 (by omega) ?_ | refine IntG.wr' rfl ?_ | refine Chk.mk (by omega) ?_ | (refine BrG.id ?_; first | with_reducible refine BrG.t ?_ | with_reducible refine BrG.f ?_ | with_reducible refine BrG.notG ?_ | with_reducible refine BrG.nn ?_ | with_reducible refine BrG.ns ?_ | refine BrG.pos (by omega) ?_ | refine BrG.neg (by omega) ?_ | with_reducible refine BrG.pos rfl ?_ | refine BrG.pos (by assumption) ?_ | refine BrG.neg (by assumption) ?_ | refine BrG.pos (by decide) ?_ | refine BrG.neg (by decide) ?_) | refine Chk.mk (ptr_ok tblOk rfl rfl) ?_ | refine NilG.mk (fun _ => by kernel_rfl) ?_ | refine Chk.mk (by decide) ?_)
  refine hS.al ?_
  intro tb w1 _ hS
  repeat (first | refine SemW.run tblOk ?_ | refine IntG.nw (by omega) ?_ | refine IntG.nu8 (by omega) ?_ | refine IntG.nu32 (by omega) ?_ | refine IntG.nu64 (by omega) ?_ | refine IntG.wr' rfl ?_ | refine Chk.mk (by omega) ?_ | (refine BrG.id ?_; first | with_reducible refine BrG.t ?_ | with_reducible refine BrG.f ?_ | with_reducible refine BrG.notG ?_ | with_reducible refine BrG.nn ?_ | with_reducible refine BrG.ns ?_ | refine BrG.pos (by omega) ?_ | refine BrG.neg (by omega) ?_ | with_reducible refine BrG.pos rfl ?_ | refine BrG.pos (by assumption) ?_ | refine BrG.neg (by assumption) ?_ | refine BrG.pos (by decide) ?_ | refine BrG.neg (by decide) ?_) | refine Chk.mk (ptr_ok tblOk rfl rfl) ?_ | refine NilG.mk (fun _ => by kernel_rfl) ?_ | refine Chk.mk (by decide) ?_ | refine hS.ld rfl ?_ | refine hS.ldn rfl ?_ | (refine hS.st rfl rfl ?_; intro _ hS))
  refine Cl.mono (Bytes_spec hW (hh.keep hS)) ?_
  rintro _ w2 ⟨rfl, hS'⟩
  have hS := hS.call0 ((hh.keep hS).same hS')
  repeat (first | refine SemW.run tblOk ?_ | refine IntG.nw (by omega) ?_ | refine IntG.nu8 (by omega) ?_ | refine IntG.nu32 (by omega) ?_ | refine IntG.nu64 (by omega) ?_ | refine IntG.wr' rfl ?_ | refine Chk.mk (by omega) ?_ | (refine BrG.id ?_; first | with_reducible refine BrG.t ?_ | with_reducible refine BrG.f ?_ | with_reducible refine BrG.notG ?_ | with_reducible refine BrG.nn ?_ | with_reducible refine BrG.ns ?_ | refine BrG.pos (by omega) ?_ | refine BrG.neg (by omega) ?_ | with_reducible refine BrG.pos rfl ?_ | refine BrG.pos (by assumption) ?_ | refine BrG.neg (by assumption) ?_ | refine BrG.pos (by decide) ?_ | refine BrG.neg (by decide) ?_) | refine Chk.mk (ptr_ok tblOk rfl rfl) ?_ | refine NilG.mk (fun _ => by kernel_rfl) ?_ | refine Chk.mk (by decide) ?_ | refine hS.ld rfl ?_ | refine hS.ldn rfl ?_ | (refine hS.st rfl rfl ?_; intro _ hS))
  refine hS.al ?_
  intro r w3 _ hS
  repeat (first | refine SemW.run tblOk ?_ | refine IntG.nw (by omega) ?_ | refine IntG.nu8 (by omega) ?_ | refine IntG.nu32 (by omega) ?_ | refine IntG.nu64 (by omega) ?_ | refine IntG.wr' rfl ?_ | refine Chk.mk (by omega) ?_ | (refine BrG.id ?_; first | with_reducible refine BrG.t ?_ | with_reducible refine BrG.f ?_ | with_reducible refine BrG.notG ?_ | with_reducible refine BrG.nn ?_ | with_reducible refine BrG.ns ?_ | refine BrG.pos (by omega) ?_ | refine BrG.neg (by omega) ?_ | with_reducible refine BrG.pos rfl ?_ | refine BrG.pos (by assumption) ?_ | refine BrG.neg (by assumption) ?_ | refine BrG.pos (by decide) ?_ | refine BrG.neg (by decide) ?_) | refine Chk.mk (ptr_ok tblOk rfl rfl) ?_ | refine NilG.mk (fun _ => by kernel_rfl) ?_ | refine Chk.mk (by decide) ?_ | refine hS.ld rfl ?_ | refine hS.ldn rfl ?_ | (refine hS.st rfl rfl ?_; intro _ hS))
  refine Cl.mono (Seal_spec (ps := [bs]) (by rw [hsl]; simp only [List.length_singleton]; omega) (hS.arr (b := r) (by simp))) ?_
  rintro _ w4 ⟨rfl, hS'⟩
  have hS := hS.call0 hS'
  rw [okLens_one, sealB_one]
  by_cases h : bs.length ≤ 65536
  · rw [if_pos h, if_pos (decide_eq_true h)]
    repeat (first | refine SemW.run tblOk ?_ | refine IntG.nw (by omega) ?_ | refine IntG.nu8 (by omega) ?_ | refine IntG.nu32 (by omega) ?_ | refine IntG.nu64 (by omega) ?_ | refine IntG.wr' rfl ?_ | refine Chk.mk (by omega) ?_ | (refine BrG.id ?_; first | with_reducible refine BrG.t ?_ | with_reducible refine BrG.f ?_ | with_reducible refine BrG.notG ?_ | with_reducible refine BrG.nn ?_ | with_reducible refine BrG.ns ?_ | refine BrG.pos (by omega) ?_ | refine BrG.neg (by omega) ?_ | with_reducible refine BrG.pos rfl ?_ | refine BrG.pos (by assumption) ?_ | refine BrG.neg (by assumption) ?_ | refine BrG.pos (by decide) ?_ | refine BrG.neg (by decide) ?_) | refine Chk.mk (ptr_ok tblOk rfl rfl) ?_ | refine NilG.mk (fun _ => by kernel_rfl) ?_ | refine Chk.mk (by decide) ?_ | refine hS.ld rfl ?_ | refine hS.ldn rfl ?_ | (refine hS.st rfl rfl ?_; intro _ hS))
    exact ⟨rfl, hS.nil⟩
  · rw [if_neg h, if_neg (by rw [decide_eq_false h]; nofun)]
    repeat (first | refine SemW.run tblOk ?_ | refine IntG.nw (by omega) ?_ | refine IntG.nu8 (by omega) ?_ | refine IntG.nu32 (by omega) ?_ | refine IntG.nu64 (by omega) ?_ | refine IntG.wr' rfl ?_ | refine Chk.mk (by omega) ?_ | (refine BrG.id ?_; first | with_reducible refine BrG.t ?_ | with_reducible refine BrG.f ?_ | with_reducible refine BrG.notG ?_ | with_reducible refine BrG.nn ?_ | with_reducible refine BrG.ns ?_ | refine BrG.pos (by omega) ?_ | refine BrG.neg (by omega) ?_ | with_reducible refine BrG.pos rfl ?_ | refine BrG.pos (by assumption) ?_ | refine BrG.neg (by assumption) ?_ | refine BrG.pos (by decide) ?_ | refine BrG.neg (by decide) ?_) | refine Chk.mk (ptr_ok tblOk rfl rfl) ?_ | refine NilG.mk (fun _ => by kernel_rfl) ?_ | refine Chk.mk (by decide) ?_ | refine hS.ld rfl ?_ | refine hS.ldn rfl ?_ | (refine hS.st rfl rfl ?_; intro _ hS))
    exact ⟨rfl, hS.nil⟩
theorem wText_size (s : RB) : (wText s).1.length ≤ s.t.length := by
  have := textO_len s.t
  unfold wText; simp only; omega
theorem wRow_tlen (s : RB) : (wRow s).2.t.length ≤ s.t.length := by
  unfold wRow tk
  exact Nat.le_trans (wText_tlen _) (Nat.le_trans (wMarks_tlen _ _) (wInts_tlen _ _))
theorem wRow_size (s : RB) : (wRow s).1.seats.length ≤ s.t.length := by
  unfold wRow tk
  exact Nat.le_trans (wText_size _) (Nat.le_trans (wMarks_tlen _ _) (wInts_tlen _ _))
theorem wRows_size : ∀ (n : Nat) (s : RB), ∀ r ∈ (wRows n s).1, r.seats.length ≤ s.t.length
  | 0, _, _, h => by cases h
  | n + 1, s, r, h => by
    rcases List.mem_cons.1 h with rfl | h
    · exact wRow_size s
    · exact Nat.le_trans (wRows_size n _ r h) (wRow_tlen s)
/-- No part of what is read is longer than what was read. -/
structure SizeC (n : Nat) (c : CmdM) : Prop where
  rows : c.rows.length ≤ n
  text : c.text.length ≤ n
  seats : ∀ r ∈ c.rows, r.seats.length ≤ n
theorem wField_size (k : CK) (kd q : Int) (s : RB) : SizeC s.t.length (wField k kd q s).1 := by
  cases k
  · have h1 := wInts_tlen 1 s
    have h2 := wNum_tlen (wInts 1 s).2.t.length (wInts 1 s).2
    have h3 := wNum_le (wInts 1 s).2.t.length (wInts 1 s).2
    refine ⟨?_, Nat.zero_le _, ?_⟩
    · show (wRows _ _).1.length ≤ _
      rw [wRows_len]; omega
    · intro r hr
      have := wRows_size _ _ r hr
      omega
  · exact ⟨Nat.zero_le _, Nat.zero_le _, by nofun⟩
  · exact ⟨Nat.zero_le _, Nat.zero_le _, by nofun⟩
  · exact ⟨Nat.zero_le _, Nat.zero_le _, by nofun⟩
  · exact ⟨Nat.zero_le _, Nat.zero_le _, by nofun⟩
  · exact ⟨Nat.zero_le _, Nat.zero_le _, by nofun⟩
  · exact ⟨Nat.zero_le _, wText_size s, by nofun⟩
  · exact ⟨Nat.zero_le _, Nat.zero_le _, by nofun⟩
def RdPost (o : Option CmdM) (v : Value) (w w' : World) : Prop := match o with
  | none => v = .tuple ⟨[cmdV (hdC 0 0) none 0, .int .i64 34]⟩ ∧ St w [] [] w'
  | some c => ∃ a cap L, v = .tuple ⟨[cmdV c a cap, .int .i64 0]⟩ ∧ Vec T_api_Row 5 a c.rows.length cap (c.rows.flatMap rowC) L ∧ St w [] L w'
def readC (t : Bytes) : Option CmdM := (openS t).bind cmdS
set_option maxHeartbeats 4000000 in
set_option maxRecDepth 4000 in
theorem ReadCommand_spec {w : World} {t : Bytes} (ht : t.length ≤ 140737488355328) : Cl Tryd.prog f_wire_ReadCommand [Str t] w fun v w' => RdPost (readC t) v w w' := by
  have hS := St.start w
  unfold readC
  refine en_wire_ReadCommand rfl ?_
  repeat (first | refine SemW.run tblOk ?_ | refine IntG.nw (by omega) ?_ | refine IntG.nu8 (by omega) ?_ | refine IntG.nu32 (by omega) ?_ | refine IntG.nu64 (by omega) ?_ | refine IntG.wr' rfl ?_ | refine Chk.mk (by omega) ?_ | (refine BrG.id ?_; first | with_reducible refine BrG.t ?_ | with_reducible refine BrG.f ?_ | with_reducible refine BrG.notG ?_ | with_reducible refine BrG.nn ?_ | with_reducible refine BrG.ns ?_ | refine BrG.pos (by omega) ?_ | refine BrG.neg (by omega) ?_ | with_reducible refine BrG.pos rfl ?_ | refine BrG.pos (by assumption) ?_ | refine BrG.neg (by assumption) ?_ | refine BrG.pos (by decide) ?_ | refine BrG.neg (by decide) ?_) | refine Chk.mk (ptr_ok tblOk rfl rfl) ?_ | refine NilG.mk (fun _ => by kernel_rfl) ?_ | refine Chk.mk (by decide) ?_)
  refine hS.al ?_
  intro b2 w1 _ hS
  repeat (first | refine SemW.run tblOk ?_ | refine IntG.nw (by omega) ?_ | refine IntG.nu8 (by omega) ?_ | refine IntG.nu32 (by omega) ?_ | refine IntG.nu64 (by omega) ?_ | refine IntG.wr' rfl ?_ | refine Chk.mk (by omega) ?_ | (refine BrG.id ?_; first | with_reducible refine BrG.t ?_ | with_reducible refine BrG.f ?_ | with_reducible refine BrG.notG ?_ | with_reducible refine BrG.nn ?_ | with_reducible refine BrG.ns ?_ | refine BrG.pos (by omega) ?_ | refine BrG.neg (by omega) ?_ | with_reducible refine BrG.pos rfl ?_ | refine BrG.pos (by assumption) ?_ | refine BrG.neg (by assumption) ?_ | refine BrG.pos (by decide) ?_ | refine BrG.neg (by decide) ?_) | refine Chk.mk (ptr_ok tblOk rfl rfl) ?_ | refine NilG.mk (fun _ => by kernel_rfl) ?_ | refine Chk.mk (by decide) ?_ | refine hS.ld rfl ?_ | refine hS.ldn rfl ?_ | (refine hS.st rfl rfl ?_; intro _ hS))
  refine Cl.mono (open_spec ht) ?_
  intro v w2 hO
  have hle : ∀ p, openS t = some p → p.length ≤ 65536 := fun p h => (openS_iff.1 h).2
  cases ho : openS t with
  | none =>
    rw [ho] at hO
    obtain ⟨rfl, hS'⟩ := hO
    have hS := hS.call0 hS'
    repeat (first | refine SemW.run tblOk ?_ | refine IntG.nw (by omega) ?_ | refine IntG.nu8 (by omega) ?_ | refine IntG.nu32 (by omega) ?_ | refine IntG.nu64 (by omega) ?_ | refine IntG.wr' rfl ?_ | refine Chk.mk (by omega) ?_ | (refine BrG.id ?_; first | with_reducible refine BrG.t ?_ | with_reducible refine BrG.f ?_ | with_reducible refine BrG.notG ?_ | with_reducible refine BrG.nn ?_ | with_reducible refine BrG.ns ?_ | refine BrG.pos (by omega) ?_ | refine BrG.neg (by omega) ?_ | with_reducible refine BrG.pos rfl ?_ | refine BrG.pos (by assumption) ?_ | refine BrG.neg (by assumption) ?_ | refine BrG.pos (by decide) ?_ | refine BrG.neg (by decide) ?_) | refine Chk.mk (ptr_ok tblOk rfl rfl) ?_ | refine NilG.mk (fun _ => by kernel_rfl) ?_ | refine Chk.mk (by decide) ?_ | refine hS.ld rfl ?_ | refine hS.ldn rfl ?_ | (refine hS.st rfl rfl ?_; intro _ hS))
    exact ⟨rfl, hS.nil⟩
  | some p =>
    rw [ho] at hO
    obtain ⟨rr, rb, rfl, hS'⟩ := hO
    have hpl := hle p ho
    have hS := hS.callNew hS'
    have hbind : (some p).bind cmdS = cmdS p := rfl
    rw [hbind]
    unfold cmdS tk
    simp only
    repeat (first | refine SemW.run tblOk ?_ | refine IntG.nw (by omega) ?_ | refine IntG.nu8 (by omega) ?_ | refine IntG.nu32 (by omega) ?_ | refine IntG.nu64 (by omega) ?_ | refine IntG.wr' rfl ?_ | refine Chk.mk (by omega) ?_ | (refine BrG.id ?_; first | with_reducible refine BrG.t ?_ | with_reducible refine BrG.f ?_ | with_reducible refine BrG.notG ?_ | with_reducible refine BrG.nn ?_ | with_reducible refine BrG.ns ?_ | refine BrG.pos (by omega) ?_ | refine BrG.neg (by omega) ?_ | with_reducible refine BrG.pos rfl ?_ | refine BrG.pos (by assumption) ?_ | refine BrG.neg (by assumption) ?_ | refine BrG.pos (by decide) ?_ | refine BrG.neg (by decide) ?_) | refine Chk.mk (ptr_ok tblOk rfl rfl) ?_ | refine NilG.mk (fun _ => by kernel_rfl) ?_ | refine Chk.mk (by decide) ?_ | refine hS.ld rfl ?_ | refine hS.ldn rfl ?_ | (refine hS.st rfl rfl ?_; intro _ hS))
    refine Cl.mono (rnum_spec (s := ⟨p, false⟩) (most := 15) (hS.part (L := rdH rr rb ⟨p, false⟩)) (by simp only; omega) (by omega)) ?_
    rintro _ w3 ⟨rfl, hS'⟩
    have hS := hS.call (L := rdH rr rb ⟨p, false⟩) hS'
    have hn := wNum_le 15 ⟨p, false⟩
    have ht1 := wNum_tlen 15 ⟨p, false⟩
    generalize wNum 15 ⟨p, false⟩ = x at hS hn ht1 ⊢
    obtain ⟨n, s1⟩ := x
    simp only at hS hn ht1 ⊢
    repeat (first | refine SemW.run tblOk ?_ | refine IntG.nw (by omega) ?_ | refine IntG.nu8 (by omega) ?_ | refine IntG.nu32 (by omega) ?_ | refine IntG.nu64 (by omega) ?_ | refine IntG.wr' rfl ?_ | refine Chk.mk (by omega) ?_ | (refine BrG.id ?_; first | with_reducible refine BrG.t ?_ | with_reducible refine BrG.f ?_ | with_reducible refine BrG.notG ?_ | with_reducible refine BrG.nn ?_ | with_reducible refine BrG.ns ?_ | refine BrG.pos (by omega) ?_ | refine BrG.neg (by omega) ?_ | with_reducible refine BrG.pos rfl ?_ | refine BrG.pos (by assumption) ?_ | refine BrG.neg (by assumption) ?_ | refine BrG.pos (by decide) ?_ | refine BrG.neg (by decide) ?_) | refine Chk.mk (ptr_ok tblOk rfl rfl) ?_ | refine NilG.mk (fun _ => by kernel_rfl) ?_ | refine Chk.mk (by decide) ?_ | refine hS.ld rfl ?_ | refine hS.ldn rfl ?_ | (refine hS.st rfl rfl ?_; intro _ hS))
    refine hS.al ?_
    intro cb w4 _ hS
    repeat (first | refine SemW.run tblOk ?_ | refine IntG.nw (by omega) ?_ | refine IntG.nu8 (by omega) ?_ | refine IntG.nu32 (by omega) ?_ | refine IntG.nu64 (by omega) ?_ | refine IntG.wr' rfl ?_ | refine Chk.mk (by omega) ?_ | (refine BrG.id ?_; first | with_reducible refine BrG.t ?_ | with_reducible refine BrG.f ?_ | with_reducible refine BrG.notG ?_ | with_reducible refine BrG.nn ?_ | with_reducible refine BrG.ns ?_ | refine BrG.pos (by omega) ?_ | refine BrG.neg (by omega) ?_ | with_reducible refine BrG.pos rfl ?_ | refine BrG.pos (by assumption) ?_ | refine BrG.neg (by assumption) ?_ | refine BrG.pos (by decide) ?_ | refine BrG.neg (by decide) ?_) | refine Chk.mk (ptr_ok tblOk rfl rfl) ?_ | refine NilG.mk (fun _ => by kernel_rfl) ?_ | refine Chk.mk (by decide) ?_ | refine hS.ld rfl ?_ | refine hS.ldn rfl ?_ | (refine hS.st rfl rfl ?_; intro _ hS))
    have hS : St w [] (tgH cb (cmdC (hdC n 0) none 0) T_api_Command rr rb s1 ++ [(b2, .cells ⟨cmdC (hdC 0 0) none 0⟩ T_api_Command (0, 0))]) _ := hS
    refine hS.al ?_
    intro r w5 _ hS
    repeat (first | refine SemW.run tblOk ?_ | refine IntG.nw (by omega) ?_ | refine IntG.nu8 (by omega) ?_ | refine IntG.nu32 (by omega) ?_ | refine IntG.nu64 (by omega) ?_ | refine IntG.wr' rfl ?_ | refine Chk.mk (by omega) ?_ | (refine BrG.id ?_; first | with_reducible refine BrG.t ?_ | with_reducible refine BrG.f ?_ | with_reducible refine BrG.notG ?_ | with_reducible refine BrG.nn ?_ | with_reducible refine BrG.ns ?_ | refine BrG.pos (by omega) ?_ | refine BrG.neg (by omega) ?_ | with_reducible refine BrG.pos rfl ?_ | refine BrG.pos (by assumption) ?_ | refine BrG.neg (by assumption) ?_ | refine BrG.pos (by decide) ?_ | refine BrG.neg (by decide) ?_) | refine Chk.mk (ptr_ok tblOk rfl rfl) ?_ | refine NilG.mk (fun _ => by kernel_rfl) ?_ | refine Chk.mk (by decide) ?_ | refine hS.ld rfl ?_ | refine hS.ldn rfl ?_ | (refine hS.st rfl rfl ?_; intro _ hS))
    refine Cl.mono (rint_spec (b := cb) (s := s1) (hS.part (L := tgH cb (cmdC (hdC n 0) none 0) T_api_Command rr rb s1)) (by omega) (offs := [1]) (hS.arr (b := r) (show r ∉ [cb, rr, rb] from nodup_chunk (L := tgH cb (cmdC (hdC n 0) none 0) T_api_Command rr rb s1) hS)) (by simp) (by simp)) ?_
    rintro _ w6 hS'
    have hS := (hS.call (L := tgH cb (cmdC (hdC n 0) none 0) T_api_Command rr rb s1) hS').sub (List.sublist_cons_self _ _)
    have hS : St w [] (tgH cb (cmdC (hdC n (rbInt s1).1) none 0) T_api_Command rr rb (rbInt s1).2 ++ [(b2, .cells ⟨cmdC (hdC 0 0) none 0⟩ T_api_Command (0, 0))]) w6 := hS
    have ht2 := rbInt_len' s1
    generalize rbInt s1 = y at hS ht2 ⊢
    obtain ⟨q, t2, bad2⟩ := y
    simp only at hS ht2 ⊢
    have hS : St w [] ((cb, .cells ⟨[.int .i64 (n : Int), .int .i64 q, .int .i64 0, .int .i64 0, .int .i64 0, .int .i64 0, .int .i64 0, .bool false, .bool false, .bool false, .bool false, .int .i64 0, .int .u8 0, .slice none 0 0, .int .i64 0, .int .i64 0, .int .i64 0, .int .i64 0, Str []]⟩ T_api_Command (0, 0)) :: (rr, .cells ⟨[ptr rb, .bool bad2]⟩ T_wire_reader (0, 0)) :: (rb, .cells ⟨[Str t2]⟩ T_pack_Reader (0, 0)) :: [(b2, .cells ⟨cmdC (hdC 0 0) none 0⟩ T_api_Command (0, 0))]) w6 := hS
    cases bad2 with
    | true =>
      rw [if_pos (.inl rfl)]
      repeat (first | refine SemW.run tblOk ?_ | refine IntG.nw (by omega) ?_ | refine IntG.nu8 (by omega) ?_ | refine IntG.nu32 (by omega) ?_ | refine IntG.nu64 (by omega) ?_ | refine IntG.wr' rfl ?_ | refine Chk.mk (by omega) ?_ | (refine BrG.id ?_; first | with_reducible refine BrG.t ?_ | with_reducible refine BrG.f ?_ | with_reducible refine BrG.notG ?_ | with_reducible refine BrG.nn ?_ | with_reducible refine BrG.ns ?_ | refine BrG.pos (by omega) ?_ | refine BrG.neg (by omega) ?_ | with_reducible refine BrG.pos rfl ?_ | refine BrG.pos (by assumption) ?_ | refine BrG.neg (by assumption) ?_ | refine BrG.pos (by decide) ?_ | refine BrG.neg (by decide) ?_) | refine Chk.mk (ptr_ok tblOk rfl rfl) ?_ | refine NilG.mk (fun _ => by kernel_rfl) ?_ | refine Chk.mk (by decide) ?_ | refine hS.ld rfl ?_ | refine hS.ldn rfl ?_ | (refine hS.st rfl rfl ?_; intro _ hS))
      exact ⟨rfl, hS.nil⟩
    | false =>
      by_cases hn0 : n = 0
      · rw [if_pos (.inr hn0)]
        repeat (first | refine SemW.run tblOk ?_ | refine IntG.nw (by omega) ?_ | refine IntG.nu8 (by omega) ?_ | refine IntG.nu32 (by omega) ?_ | refine IntG.nu64 (by omega) ?_ | refine IntG.wr' rfl ?_ | refine Chk.mk (by omega) ?_ | (refine BrG.id ?_; first | with_reducible refine BrG.t ?_ | with_reducible refine BrG.f ?_ | with_reducible refine BrG.notG ?_ | with_reducible refine BrG.nn ?_ | with_reducible refine BrG.ns ?_ | refine BrG.pos (by omega) ?_ | refine BrG.neg (by omega) ?_ | with_reducible refine BrG.pos rfl ?_ | refine BrG.pos (by assumption) ?_ | refine BrG.neg (by assumption) ?_ | refine BrG.pos (by decide) ?_ | refine BrG.neg (by decide) ?_) | refine Chk.mk (ptr_ok tblOk rfl rfl) ?_ | refine NilG.mk (fun _ => by kernel_rfl) ?_ | refine Chk.mk (by decide) ?_ | refine hS.ld rfl ?_ | refine hS.ldn rfl ?_ | (refine hS.st rfl rfl ?_; intro _ hS))
        exact ⟨rfl, hS.nil⟩
      · rw [if_neg (by rintro (h | h); (· cases h); exact hn0 h)]
        repeat (first | refine SemW.run tblOk ?_ | refine IntG.nw (by omega) ?_ | refine IntG.nu8 (by omega) ?_ | refine IntG.nu32 (by omega) ?_ | refine IntG.nu64 (by omega) ?_ | refine IntG.wr' rfl ?_ | refine Chk.mk (by omega) ?_ | (refine BrG.id ?_; first | with_reducible refine BrG.t ?_ | with_reducible refine BrG.f ?_ | with_reducible refine BrG.notG ?_ | with_reducible refine BrG.nn ?_ | with_reducible refine BrG.ns ?_ | refine BrG.pos (by omega) ?_ | refine BrG.neg (by omega) ?_ | with_reducible refine BrG.pos rfl ?_ | refine BrG.pos (by assumption) ?_ | refine BrG.neg (by assumption) ?_ | refine BrG.pos (by decide) ?_ | refine BrG.neg (by decide) ?_) | refine Chk.mk (ptr_ok tblOk rfl rfl) ?_ | refine NilG.mk (fun _ => by kernel_rfl) ?_ | refine Chk.mk (by decide) ?_ | refine hS.ld rfl ?_ | refine hS.ldn rfl ?_ | (refine hS.st rfl rfl ?_; intro _ hS))
        refine Cl.mono (command_rd (k := (n : Int)) (q := q) (s := ⟨t2, false⟩) (hS.part (L := cmdH cb rr rb (hdC n q) none 0 ⟨t2, false⟩ [])) (by simp only; omega)) ?_
        rintro _ w7 ⟨a, cap, Lv, hv, hS'⟩
        have hS := hS.call (L := cmdH cb rr rb (hdC n q) none 0 ⟨t2, false⟩ []) hS'
        have hsz := wField_size (ckOf (n : Int)) n q ⟨t2, false⟩
        generalize wField (ckOf (n : Int)) n q ⟨t2, false⟩ = z at hv hS hsz ⊢
        obtain ⟨c, t3, bad3⟩ := z
        simp only at hv hS hsz ⊢
        have hsr := hsz.rows
        have hst := hsz.text
        have hS : St w [] ((cb, .cells ⟨cmdC c a cap⟩ T_api_Command (0, 0)) :: (rr, .cells ⟨[ptr rb, .bool bad3]⟩ T_wire_reader (0, 0)) :: (rb, .cells ⟨[Str t3]⟩ T_pack_Reader (0, 0)) :: (Lv ++ [(b2, .cells ⟨cmdC (hdC 0 0) none 0⟩ T_api_Command (0, 0))])) w7 := hS
        cases bad3 with
        | true =>
          rw [if_pos (.inl rfl)]
          repeat (first | refine SemW.run tblOk ?_ | refine IntG.nw (by omega) ?_ | refine IntG.nu8 (by omega) ?_ | refine IntG.nu32 (by omega) ?_ | refine IntG.nu64 (by omega) ?_ | refine IntG.wr' rfl ?_ | refine Chk.mk (by omega) ?_ | (refine BrG.id ?_; first | with_reducible refine BrG.t ?_ | with_reducible refine BrG.f ?_ | with_reducible refine BrG.notG ?_ | with_reducible refine BrG.nn ?_ | with_reducible refine BrG.ns ?_ | refine BrG.pos (by omega) ?_ | refine BrG.neg (by omega) ?_ | with_reducible refine BrG.pos rfl ?_ | refine BrG.pos (by assumption) ?_ | refine BrG.neg (by assumption) ?_ | refine BrG.pos (by decide) ?_ | refine BrG.neg (by decide) ?_) | refine Chk.mk (ptr_ok tblOk rfl rfl) ?_ | refine NilG.mk (fun _ => by kernel_rfl) ?_ | refine Chk.mk (by decide) ?_ | refine hS.ld rfl ?_ | refine hS.ldn rfl ?_ | (refine hS.st rfl rfl ?_; intro _ hS))
          exact ⟨rfl, hS.nil⟩
        | false =>
          repeat (first | refine SemW.run tblOk ?_ | refine IntG.nw (by omega) ?_ | refine IntG.nu8 (by omega) ?_ | refine IntG.nu32 (by omega) ?_ | refine IntG.nu64 (by omega) ?_ | refine IntG.wr' rfl ?_ | refine Chk.mk (by omega) ?_ | (refine BrG.id ?_; first | with_reducible refine BrG.t ?_ | with_reducible refine BrG.f ?_ | with_reducible refine BrG.notG ?_ | with_reducible refine BrG.nn ?_ | with_reducible refine BrG.ns ?_ | refine BrG.pos (by omega) ?_ | refine BrG.neg (by omega) ?_ | with_reducible refine BrG.pos rfl ?_ | refine BrG.pos (by assumption) ?_ | refine BrG.neg (by assumption) ?_ | refine BrG.pos (by decide) ?_ | refine BrG.neg (by decide) ?_) | refine Chk.mk (ptr_ok tblOk rfl rfl) ?_ | refine NilG.mk (fun _ => by kernel_rfl) ?_ | refine Chk.mk (by decide) ?_ | refine hS.ld rfl ?_ | refine hS.ldn rfl ?_ | (refine hS.st rfl rfl ?_; intro _ hS))
          refine Cl.mono (RDone_spec (t := t3) (hS.part (L := [(rb, rdC t3)]))) ?_
          rintro _ w8 ⟨rfl, hS'⟩
          have hS := hS.call0 hS'
          by_cases ht3 : t3 = []
          · rw [decide_eq_true ht3]
            repeat (first | refine SemW.run tblOk ?_ | refine IntG.nw (by omega) ?_ | refine IntG.nu8 (by omega) ?_ | refine IntG.nu32 (by omega) ?_ | refine IntG.nu64 (by omega) ?_ | refine IntG.wr' rfl ?_ | refine Chk.mk (by omega) ?_ | (refine BrG.id ?_; first | with_reducible refine BrG.t ?_ | with_reducible refine BrG.f ?_ | with_reducible refine BrG.notG ?_ | with_reducible refine BrG.nn ?_ | with_reducible refine BrG.ns ?_ | refine BrG.pos (by omega) ?_ | refine BrG.neg (by omega) ?_ | with_reducible refine BrG.pos rfl ?_ | refine BrG.pos (by assumption) ?_ | refine BrG.neg (by assumption) ?_ | refine BrG.pos (by decide) ?_ | refine BrG.neg (by decide) ?_) | refine Chk.mk (ptr_ok tblOk rfl rfl) ?_ | refine NilG.mk (fun _ => by kernel_rfl) ?_ | refine Chk.mk (by decide) ?_ | refine hS.ld rfl ?_ | refine hS.ldn rfl ?_ | (refine hS.st rfl rfl ?_; intro _ hS))
            refine Cl.mono (wsmall_spec c (rowsAt_vec (L := Lv) hS hv) (by omega) (by omega) (fun r hr => by have := hsz.seats r hr; omega)) ?_
            rintro _ w9 ⟨rfl, hS'⟩
            have hS := hS.call0 hS'
            cases hsm : smallC c with
            | true =>
              rw [if_neg (by rintro (h | h | h); (· cases h); (· exact h ht3); cases h)]
              repeat (first | refine SemW.run tblOk ?_ | refine IntG.nw (by omega) ?_ | refine IntG.nu8 (by omega) ?_ | refine IntG.nu32 (by omega) ?_ | refine IntG.nu64 (by omega) ?_ | refine IntG.wr' rfl ?_ | refine Chk.mk (by omega) ?_ | (refine BrG.id ?_; first | with_reducible refine BrG.t ?_ | with_reducible refine BrG.f ?_ | with_reducible refine BrG.notG ?_ | with_reducible refine BrG.nn ?_ | with_reducible refine BrG.ns ?_ | refine BrG.pos (by omega) ?_ | refine BrG.neg (by omega) ?_ | with_reducible refine BrG.pos rfl ?_ | refine BrG.pos (by assumption) ?_ | refine BrG.neg (by assumption) ?_ | refine BrG.pos (by decide) ?_ | refine BrG.neg (by decide) ?_) | refine Chk.mk (ptr_ok tblOk rfl rfl) ?_ | refine NilG.mk (fun _ => by kernel_rfl) ?_ | refine Chk.mk (by decide) ?_ | refine hS.ld rfl ?_ | refine hS.ldn rfl ?_ | (refine hS.st rfl rfl ?_; intro _ hS))
              exact ⟨a, cap, Lv, rfl, hv, hS.sub ((List.sublist_append_left Lv _).trans ((List.sublist_cons_self _ _).trans ((List.sublist_cons_self _ _).trans (List.sublist_cons_self _ _))))⟩
            | false =>
              rw [if_pos (.inr (.inr rfl))]
              repeat (first | refine SemW.run tblOk ?_ | refine IntG.nw (by omega) ?_ | refine IntG.nu8 (by omega) ?_ | refine IntG.nu32 (by omega) ?_ | refine IntG.nu64 (by omega) ?_ | refine IntG.wr' rfl ?_ | refine Chk.mk (by omega) ?_ | (refine BrG.id ?_; first | with_reducible refine BrG.t ?_ | with_reducible refine BrG.f ?_ | with_reducible refine BrG.notG ?_ | with_reducible refine BrG.nn ?_ | with_reducible refine BrG.ns ?_ | refine BrG.pos (by omega) ?_ | refine BrG.neg (by omega) ?_ | with_reducible refine BrG.pos rfl ?_ | refine BrG.pos (by assumption) ?_ | refine BrG.neg (by assumption) ?_ | refine BrG.pos (by decide) ?_ | refine BrG.neg (by decide) ?_) | refine Chk.mk (ptr_ok tblOk rfl rfl) ?_ | refine NilG.mk (fun _ => by kernel_rfl) ?_ | refine Chk.mk (by decide) ?_ | refine hS.ld rfl ?_ | refine hS.ldn rfl ?_ | (refine hS.st rfl rfl ?_; intro _ hS))
              exact ⟨rfl, hS.nil⟩
          · rw [decide_eq_false ht3, if_pos (.inr (.inl ht3))]
            repeat (first | refine SemW.run tblOk ?_ | refine IntG.nw (by omega) ?_ | refine IntG.nu8 (by omega) ?_ | refine IntG.nu32 (by omega) ?_ | refine IntG.nu64 (by omega) ?_ | refine IntG.wr' rfl ?_ | refine Chk.mk (by omega) ?_ | (refine BrG.id ?_; first | with_reducible refine BrG.t ?_ | with_reducible refine BrG.f ?_ | with_reducible refine BrG.notG ?_ | with_reducible refine BrG.nn ?_ | with_reducible refine BrG.ns ?_ | refine BrG.pos (by omega) ?_ | refine BrG.neg (by omega) ?_ | with_reducible refine BrG.pos rfl ?_ | refine BrG.pos (by assumption) ?_ | refine BrG.neg (by assumption) ?_ | refine BrG.pos (by decide) ?_ | refine BrG.neg (by decide) ?_) | refine Chk.mk (ptr_ok tblOk rfl rfl) ?_ | refine NilG.mk (fun _ => by kernel_rfl) ?_ | refine Chk.mk (by decide) ?_ | refine hS.ld rfl ?_ | refine hS.ldn rfl ?_ | (refine hS.st rfl rfl ?_; intro _ hS))
            exact ⟨rfl, hS.nil⟩
end Go.Proofs.YthpmmfapolcaiaaDoor

/- Package wire: Command. -/
namespace Go.Proofs.YthpmmfapolcaiaaDoor
open Go Go.Eng Go.Proofs
/-- A command that is handed in. -/
structure ArgC (w : World) (c : CmdM) (a : Option Addr) (cap : Nat) : Prop where
  rows : RowsAt w a cap c.rows
  ok : c.ok
  nr : c.rows.length ≤ 16777216
  nt : c.text.length ≤ 16777216
  ns : ∀ r ∈ c.rows, r.seats.length ≤ 16777216
theorem fieldsB_len (k : CK) {c : CmdM} (hok : c.ok) (hs : smallC c = true) : (fieldsB k c).length ≤ 50000 := by
  obtain ⟨h1, h2, h3⟩ := small_iff.1 hs
  have hw := rowsW_le h3
  have hb := rowsBt_len c.rows hok.rows (by omega)
  have hi1 := ints_len [c.id] (all1 hok.id).2
  have hi2 := ints_len [c.id, c.eq] (all2 hok.id hok.eq).2
  have hi3 := ints_len [c.id, c.num] (all2 hok.id hok.num).2
  have hi4 := ints_len [c.id, c.fl, c.wcab, c.cls] (all4 hok.id hok.fl hok.wcab hok.cls).2
  have hi5 := ints_len [c.l0, c.l1, c.l2, c.l3] (all4 hok.l0 hok.l1 hok.l2 hok.l3).2
  have hi6 := ints_len [c.fl, c.eq] (all2 hok.fl hok.eq).2
  have hi7 := ints_len [c.fl] (all1 hok.fl).2
  have hn1 := numB_len10 c.rows.length (by omega)
  have hn2 := numB_len10 c.text.length (by omega)
  have hlt := hok.lt
  have hn3 := numB_len10 c.lt (by omega)
  have hn4 := numB_len10 (marksN [c.fit, c.inf, c.vol, c.stb]) (by have := marks4_lt c.fit c.inf c.vol c.stb; omega)
  simp only [List.length_cons, List.length_nil] at hi1 hi2 hi3 hi4 hi5 hi6 hi7
  cases k <;> simp only [fieldsB, textB, List.length_append] <;> omega
theorem cmdB_len {c : CmdM} (hok : c.ok) (hs : smallC c = true) (h2 : c.kind ≤ 15) : (cmdB c).length ≤ 65536 := by
  have h3 := fieldsB_len (ckOf c.kind) hok hs
  have h4 := numB_len10 c.kind.toNat (by omega)
  have h5 := numB_len10 (zig c.req) (zig_ok hok.req)
  unfold cmdB intB
  simp only [List.length_append]; omega
def cmdO (c : CmdM) : List Value := if RightC c then [Str (frameB (cmdB c)), .int .i64 0] else [Str [], .int .i64 34]
set_option maxRecDepth 4000 in
set_option maxHeartbeats 8000000 in
theorem Command_spec {w : World} {c : CmdM} {a : Option Addr} {cap : Nat} (hA : ArgC w c a cap) : Cl Tryd.prog f_wire_Command [cmdV c a cap] w fun v w' => v = .tuple ⟨cmdO c⟩ ∧ St w [] [] w' := by
  have hS := St.start w
  have hok := hA.ok
  have hnr := hA.nr
  have hnt := hA.nt
  unfold cmdO
  refine en_wire_Command rfl ?_
  repeat (first | refine SemW.run tblOk ?_ | refine IntG.nw (by omega) ?_ | refine IntG.nu8 (by omega) ?_ | refine IntG.nu32 (by omega) ?_ | refine IntG.nu64 (by omega) ?_ | refine IntG.wr' rfl ?_ | refine Chk.mk (by omega) ?_ | (refine BrG.id ?_; first | with_reducible refine BrG.t ?_ | with_reducible refine BrG.f ?_ | with_reducible refine BrG.notG ?_ | with_reducible refine BrG.nn ?_ | with_reducible refine BrG.ns ?_ | refine BrG.pos (by omega) ?_ | refine BrG.neg (by omega) ?_ | with_reducible refine BrG.pos rfl ?_ | refine BrG.pos (by assumption) ?_ | refine BrG.neg (by assumption) ?_ | refine BrG.pos (by decide) ?_ | refine BrG.neg (by decide) ?_) | refine Chk.mk (ptr_ok tblOk rfl rfl) ?_ | refine NilG.mk (fun _ => by kernel_rfl) ?_ | refine Chk.mk (by decide) ?_)
  refine hS.al ?_
  intro b1 w1 _ hS
  by_cases h1 : 1 ≤ c.kind
  rotate_left
  · rw [if_neg (fun h : RightC c => h1 h.1)]
    repeat (first | refine SemW.run tblOk ?_ | refine IntG.nw (by omega) ?_ | refine IntG.nu8 (by omega) ?_ | refine IntG.nu32 (by omega) ?_ | refine IntG.nu64 (by omega) ?_ | refine IntG.wr' rfl ?_ | refine Chk.mk (by omega) ?_ | (refine BrG.id ?_; first | with_reducible refine BrG.t ?_ | with_reducible refine BrG.f ?_ | with_reducible refine BrG.notG ?_ | with_reducible refine BrG.nn ?_ | with_reducible refine BrG.ns ?_ | refine BrG.pos (by omega) ?_ | refine BrG.neg (by omega) ?_ | with_reducible refine BrG.pos rfl ?_ | refine BrG.pos (by assumption) ?_ | refine BrG.neg (by assumption) ?_ | refine BrG.pos (by decide) ?_ | refine BrG.neg (by decide) ?_) | refine Chk.mk (ptr_ok tblOk rfl rfl) ?_ | refine NilG.mk (fun _ => by kernel_rfl) ?_ | refine Chk.mk (by decide) ?_ | refine hS.ld rfl ?_ | refine hS.ldn rfl ?_ | (refine hS.st rfl rfl ?_; intro _ hS))
    exact ⟨rfl, hS.nil⟩
  by_cases h2 : c.kind ≤ 15
  rotate_left
  · rw [if_neg (fun h : RightC c => h2 h.2.1)]
    repeat (first | refine SemW.run tblOk ?_ | refine IntG.nw (by omega) ?_ | refine IntG.nu8 (by omega) ?_ | refine IntG.nu32 (by omega) ?_ | refine IntG.nu64 (by omega) ?_ | refine IntG.wr' rfl ?_ | refine Chk.mk (by omega) ?_ | (refine BrG.id ?_; first | with_reducible refine BrG.t ?_ | with_reducible refine BrG.f ?_ | with_reducible refine BrG.notG ?_ | with_reducible refine BrG.nn ?_ | with_reducible refine BrG.ns ?_ | refine BrG.pos (by omega) ?_ | refine BrG.neg (by omega) ?_ | with_reducible refine BrG.pos rfl ?_ | refine BrG.pos (by assumption) ?_ | refine BrG.neg (by assumption) ?_ | refine BrG.pos (by decide) ?_ | refine BrG.neg (by decide) ?_) | refine Chk.mk (ptr_ok tblOk rfl rfl) ?_ | refine NilG.mk (fun _ => by kernel_rfl) ?_ | refine Chk.mk (by decide) ?_ | refine hS.ld rfl ?_ | refine hS.ldn rfl ?_ | (refine hS.st rfl rfl ?_; intro _ hS))
    exact ⟨rfl, hS.nil⟩
  repeat (first | refine SemW.run tblOk ?_ | refine IntG.nw (by omega) ?_ | refine IntG.nu8 (by omega) ?_ | refine IntG.nu32 (by omega) ?_ | refine IntG.nu64 (by omega) ?_ | refine IntG.wr' rfl ?_ | refine Chk.mk (by omega) ?_ | (refine BrG.id ?_; first | with_reducible refine BrG.t ?_ | with_reducible refine BrG.f ?_ | with_reducible refine BrG.notG ?_ | with_reducible refine BrG.nn ?_ | with_reducible refine BrG.ns ?_ | refine BrG.pos (by omega) ?_ | refine BrG.neg (by omega) ?_ | with_reducible refine BrG.pos rfl ?_ | refine BrG.pos (by assumption) ?_ | refine BrG.neg (by assumption) ?_ | refine BrG.pos (by decide) ?_ | refine BrG.neg (by decide) ?_) | refine Chk.mk (ptr_ok tblOk rfl rfl) ?_ | refine NilG.mk (fun _ => by kernel_rfl) ?_ | refine Chk.mk (by decide) ?_ | refine hS.ld rfl ?_ | refine hS.ldn rfl ?_ | (refine hS.st rfl rfl ?_; intro _ hS))
  refine Cl.mono (wsmall_spec c (hA.rows.keep hS.nil) hnr (by omega) (fun r hr => by have := hA.ns r hr; omega)) ?_
  rintro _ w2 ⟨rfl, hS'⟩
  have hS := hS.call0 hS'
  cases hsm : smallC c with
  | false =>
    rw [if_neg (fun h : RightC c => by have := h.2.2.1; rw [hsm] at this; cases this)]
    repeat (first | refine SemW.run tblOk ?_ | refine IntG.nw (by omega) ?_ | refine IntG.nu8 (by omega) ?_ | refine IntG.nu32 (by omega) ?_ | refine IntG.nu64 (by omega) ?_ | refine IntG.wr' rfl ?_ | refine Chk.mk (by omega) ?_ | (refine BrG.id ?_; first | with_reducible refine BrG.t ?_ | with_reducible refine BrG.f ?_ | with_reducible refine BrG.notG ?_ | with_reducible refine BrG.nn ?_ | with_reducible refine BrG.ns ?_ | refine BrG.pos (by omega) ?_ | refine BrG.neg (by omega) ?_ | with_reducible refine BrG.pos rfl ?_ | refine BrG.pos (by assumption) ?_ | refine BrG.neg (by assumption) ?_ | refine BrG.pos (by decide) ?_ | refine BrG.neg (by decide) ?_) | refine Chk.mk (ptr_ok tblOk rfl rfl) ?_ | refine NilG.mk (fun _ => by kernel_rfl) ?_ | refine Chk.mk (by decide) ?_ | refine hS.ld rfl ?_ | refine hS.ldn rfl ?_ | (refine hS.st rfl rfl ?_; intro _ hS))
    exact ⟨rfl, hS.nil⟩
  | true =>
    obtain ⟨s1, s2, s3⟩ := small_iff.1 hsm
    have hlen := cmdB_len hok hsm h2
    obtain ⟨kn, hkn⟩ : ∃ kn : Nat, c.kind = (kn : Int) := ⟨c.kind.toNat, by omega⟩
    have hk10 := numB_len10 kn (by omega)
    have hq10 := numB_len10 (zig c.req) (zig_ok hok.req)
    repeat (first | refine SemW.run tblOk ?_ | refine IntG.nw (by omega) ?_ | refine IntG.nu8 (by omega) ?_ | refine IntG.nu32 (by omega) ?_ | refine IntG.nu64 (by omega) ?_ | refine IntG.wr' rfl ?_ | refine Chk.mk (by omega) ?_ | (refine BrG.id ?_; first | with_reducible refine BrG.t ?_ | with_reducible refine BrG.f ?_ | with_reducible refine BrG.notG ?_ | with_reducible refine BrG.nn ?_ | with_reducible refine BrG.ns ?_ | refine BrG.pos (by omega) ?_ | refine BrG.neg (by omega) ?_ | with_reducible refine BrG.pos rfl ?_ | refine BrG.pos (by assumption) ?_ | refine BrG.neg (by assumption) ?_ | refine BrG.pos (by decide) ?_ | refine BrG.neg (by decide) ?_) | refine Chk.mk (ptr_ok tblOk rfl rfl) ?_ | refine NilG.mk (fun _ => by kernel_rfl) ?_ | refine Chk.mk (by decide) ?_ | refine hS.ld rfl ?_ | refine hS.ldn rfl ?_ | (refine hS.st rfl rfl ?_; intro _ hS))
    refine Cl.mono PNew_spec ?_
    rintro _ w3 ⟨pb, L, rfl, hW, hS'⟩
    have hS := hS.callNew hS'
    repeat (first | refine SemW.run tblOk ?_ | refine IntG.nw (by omega) ?_ | refine IntG.nu8 (by omega) ?_ | refine IntG.nu32 (by omega) ?_ | refine IntG.nu64 (by omega) ?_ | refine IntG.wr' rfl ?_ | refine Chk.mk (by omega) ?_ | (refine BrG.id ?_; first | with_reducible refine BrG.t ?_ | with_reducible refine BrG.f ?_ | with_reducible refine BrG.notG ?_ | with_reducible refine BrG.nn ?_ | with_reducible refine BrG.ns ?_ | refine BrG.pos (by omega) ?_ | refine BrG.neg (by omega) ?_ | with_reducible refine BrG.pos rfl ?_ | refine BrG.pos (by assumption) ?_ | refine BrG.neg (by assumption) ?_ | refine BrG.pos (by decide) ?_ | refine BrG.neg (by decide) ?_) | refine Chk.mk (ptr_ok tblOk rfl rfl) ?_ | refine NilG.mk (fun _ => by kernel_rfl) ?_ | refine Chk.mk (by decide) ?_ | refine hS.ld rfl ?_ | refine hS.ldn rfl ?_ | (refine hS.st rfl rfl ?_; intro _ hS))
    refine hS.al ?_
    intro b4 w4 _ hS
    repeat (first | refine SemW.run tblOk ?_ | refine IntG.nw (by omega) ?_ | refine IntG.nu8 (by omega) ?_ | refine IntG.nu32 (by omega) ?_ | refine IntG.nu64 (by omega) ?_ | refine IntG.wr' rfl ?_ | refine Chk.mk (by omega) ?_ | (refine BrG.id ?_; first | with_reducible refine BrG.t ?_ | with_reducible refine BrG.f ?_ | with_reducible refine BrG.notG ?_ | with_reducible refine BrG.nn ?_ | with_reducible refine BrG.ns ?_ | refine BrG.pos (by omega) ?_ | refine BrG.neg (by omega) ?_ | with_reducible refine BrG.pos rfl ?_ | refine BrG.pos (by assumption) ?_ | refine BrG.neg (by assumption) ?_ | refine BrG.pos (by decide) ?_ | refine BrG.neg (by decide) ?_) | refine Chk.mk (ptr_ok tblOk rfl rfl) ?_ | refine NilG.mk (fun _ => by kernel_rfl) ?_ | refine Chk.mk (by decide) ?_ | refine hS.ld rfl ?_ | refine hS.ldn rfl ?_ | (refine hS.st rfl rfl ?_; intro _ hS))
    refine hS.al ?_
    intro r w5 _ hS
    have harr := hS.arr (b := r) (nodup_chunk (L := L) hS)
    rw [hkn] at harr
    repeat (first | refine SemW.run tblOk ?_ | refine IntG.nw (by omega) ?_ | refine IntG.nu8 (by omega) ?_ | refine IntG.nu32 (by omega) ?_ | refine IntG.nu64 (by omega) ?_ | refine IntG.wr' rfl ?_ | refine Chk.mk (by omega) ?_ | (refine BrG.id ?_; first | with_reducible refine BrG.t ?_ | with_reducible refine BrG.f ?_ | with_reducible refine BrG.notG ?_ | with_reducible refine BrG.nn ?_ | with_reducible refine BrG.ns ?_ | refine BrG.pos (by omega) ?_ | refine BrG.neg (by omega) ?_ | with_reducible refine BrG.pos rfl ?_ | refine BrG.pos (by assumption) ?_ | refine BrG.neg (by assumption) ?_ | refine BrG.pos (by decide) ?_ | refine BrG.neg (by decide) ?_) | refine Chk.mk (ptr_ok tblOk rfl rfl) ?_ | refine NilG.mk (fun _ => by kernel_rfl) ?_ | refine Chk.mk (by decide) ?_ | refine hS.ld rfl ?_ | refine hS.ldn rfl ?_ | (refine hS.st rfl rfl ?_; intro _ hS))
    refine Cl.mono (Num_spec hW (hS.part (L := L)) (ns := [kn]) harr (by intro n hn; rw [List.mem_singleton] at hn; subst hn; omega) (by simp) (by simp)) ?_
    rintro _ w6 ⟨L1, hW, hS'⟩
    have hS := (hS.call (L := L) hS').sub (List.sublist_cons_self _ _)
    have hW : PackW pb (numB kn) L1 := by simpa using hW
    repeat (first | refine SemW.run tblOk ?_ | refine IntG.nw (by omega) ?_ | refine IntG.nu8 (by omega) ?_ | refine IntG.nu32 (by omega) ?_ | refine IntG.nu64 (by omega) ?_ | refine IntG.wr' rfl ?_ | refine Chk.mk (by omega) ?_ | (refine BrG.id ?_; first | with_reducible refine BrG.t ?_ | with_reducible refine BrG.f ?_ | with_reducible refine BrG.notG ?_ | with_reducible refine BrG.nn ?_ | with_reducible refine BrG.ns ?_ | refine BrG.pos (by omega) ?_ | refine BrG.neg (by omega) ?_ | with_reducible refine BrG.pos rfl ?_ | refine BrG.pos (by assumption) ?_ | refine BrG.neg (by assumption) ?_ | refine BrG.pos (by decide) ?_ | refine BrG.neg (by decide) ?_) | refine Chk.mk (ptr_ok tblOk rfl rfl) ?_ | refine NilG.mk (fun _ => by kernel_rfl) ?_ | refine Chk.mk (by decide) ?_ | refine hS.ld rfl ?_ | refine hS.ldn rfl ?_ | (refine hS.st rfl rfl ?_; intro _ hS))
    refine hS.al ?_
    intro r w7 _ hS
    repeat (first | refine SemW.run tblOk ?_ | refine IntG.nw (by omega) ?_ | refine IntG.nu8 (by omega) ?_ | refine IntG.nu32 (by omega) ?_ | refine IntG.nu64 (by omega) ?_ | refine IntG.wr' rfl ?_ | refine Chk.mk (by omega) ?_ | (refine BrG.id ?_; first | with_reducible refine BrG.t ?_ | with_reducible refine BrG.f ?_ | with_reducible refine BrG.notG ?_ | with_reducible refine BrG.nn ?_ | with_reducible refine BrG.ns ?_ | refine BrG.pos (by omega) ?_ | refine BrG.neg (by omega) ?_ | with_reducible refine BrG.pos rfl ?_ | refine BrG.pos (by assumption) ?_ | refine BrG.neg (by assumption) ?_ | refine BrG.pos (by decide) ?_ | refine BrG.neg (by decide) ?_) | refine Chk.mk (ptr_ok tblOk rfl rfl) ?_ | refine NilG.mk (fun _ => by kernel_rfl) ?_ | refine Chk.mk (by decide) ?_ | refine hS.ld rfl ?_ | refine hS.ldn rfl ?_ | (refine hS.st rfl rfl ?_; intro _ hS))
    refine Cl.mono (Int_spec hW (hS.part (L := L1)) (zs := [c.req]) (hS.arr (b := r) (nodup_chunk hS)) (all1 hok.req).2 (by simp) (by simp only [List.length_singleton]; omega)) ?_
    rintro _ w8 ⟨L2, hW, hS'⟩
    have hS := (hS.call (L := L1) hS').sub (List.sublist_cons_self _ _)
    have hW : PackW pb (numB kn ++ intB c.req) L2 := by simpa [intsB] using hW
    repeat (first | refine SemW.run tblOk ?_ | refine IntG.nw (by omega) ?_ | refine IntG.nu8 (by omega) ?_ | refine IntG.nu32 (by omega) ?_ | refine IntG.nu64 (by omega) ?_ | refine IntG.wr' rfl ?_ | refine Chk.mk (by omega) ?_ | (refine BrG.id ?_; first | with_reducible refine BrG.t ?_ | with_reducible refine BrG.f ?_ | with_reducible refine BrG.notG ?_ | with_reducible refine BrG.nn ?_ | with_reducible refine BrG.ns ?_ | refine BrG.pos (by omega) ?_ | refine BrG.neg (by omega) ?_ | with_reducible refine BrG.pos rfl ?_ | refine BrG.pos (by assumption) ?_ | refine BrG.neg (by assumption) ?_ | refine BrG.pos (by decide) ?_ | refine BrG.neg (by decide) ?_) | refine Chk.mk (ptr_ok tblOk rfl rfl) ?_ | refine NilG.mk (fun _ => by kernel_rfl) ?_ | refine Chk.mk (by decide) ?_ | refine hS.ld rfl ?_ | refine hS.ldn rfl ?_ | (refine hS.st rfl rfl ?_; intro _ hS))
    refine hS.al ?_
    intro b5 w9 _ hS
    repeat (first | refine SemW.run tblOk ?_ | refine IntG.nw (by omega) ?_ | refine IntG.nu8 (by omega) ?_ | refine IntG.nu32 (by omega) ?_ | refine IntG.nu64 (by omega) ?_ | refine IntG.wr' rfl ?_ | refine Chk.mk (by omega) ?_ | (refine BrG.id ?_; first | with_reducible refine BrG.t ?_ | with_reducible refine BrG.f ?_ | with_reducible refine BrG.notG ?_ | with_reducible refine BrG.nn ?_ | with_reducible refine BrG.ns ?_ | refine BrG.pos (by omega) ?_ | refine BrG.neg (by omega) ?_ | with_reducible refine BrG.pos rfl ?_ | refine BrG.pos (by assumption) ?_ | refine BrG.neg (by assumption) ?_ | refine BrG.pos (by decide) ?_ | refine BrG.neg (by decide) ?_) | refine Chk.mk (ptr_ok tblOk rfl rfl) ?_ | refine NilG.mk (fun _ => by kernel_rfl) ?_ | refine Chk.mk (by decide) ?_ | refine hS.ld rfl ?_ | refine hS.ldn rfl ?_ | (refine hS.st rfl rfl ?_; intro _ hS))
    refine Cl.mono (cloneRow_spec (hA.rows.keep hS.nil) hnr) ?_
    rintro _ w10 ⟨a', c', Lr, rfl, hv, hS'⟩
    have hS := hS.callNew hS'
    repeat (first | refine SemW.run tblOk ?_ | refine IntG.nw (by omega) ?_ | refine IntG.nu8 (by omega) ?_ | refine IntG.nu32 (by omega) ?_ | refine IntG.nu64 (by omega) ?_ | refine IntG.wr' rfl ?_ | refine Chk.mk (by omega) ?_ | (refine BrG.id ?_; first | with_reducible refine BrG.t ?_ | with_reducible refine BrG.f ?_ | with_reducible refine BrG.notG ?_ | with_reducible refine BrG.nn ?_ | with_reducible refine BrG.ns ?_ | refine BrG.pos (by omega) ?_ | refine BrG.neg (by omega) ?_ | with_reducible refine BrG.pos rfl ?_ | refine BrG.pos (by assumption) ?_ | refine BrG.neg (by assumption) ?_ | refine BrG.pos (by decide) ?_ | refine BrG.neg (by decide) ?_) | refine Chk.mk (ptr_ok tblOk rfl rfl) ?_ | refine NilG.mk (fun _ => by kernel_rfl) ?_ | refine Chk.mk (by decide) ?_ | refine hS.ld rfl ?_ | refine hS.ldn rfl ?_ | (refine hS.st rfl rfl ?_; intro _ hS))
    have hS : St w [] (Lr ++ ((b5, .cells ⟨cmdC c a' c'⟩ T_api_Command (0, 0)) :: (b4, .cells ⟨[ptr pb]⟩ T_wire_writer (0, 0)) :: (L2 ++ [(b1, .cells ⟨cmdC c a cap⟩ T_api_Command (0, 0))]))) _ := hS
    have hn5 : b5 ∉ keys L2 := nodup_chunk (L := L2) (hS.sub (List.sublist_append_right _ _))
    have hnr2 : ∀ b ∈ keys Lr, b ∉ keys L2 := not_in (hS.sub (List.Sublist.append_left ((List.sublist_cons_self _ _).trans (List.sublist_cons_self _ _)) Lr))
    refine Cl.mono (command_wr hW (hS.part (L := L2)) (cb := b5) (c := c) (a := a') (cap := c') ⟨hn5, fun j v h => hS.cell (b := b5) h, hv.arr hS hnr2, hok, s1, s2, s3⟩ (by simp only [List.length_append, intB]; omega)) ?_
    rintro _ w11 ⟨L3, hW, hS'⟩
    have hS := hS.call (L := L2) hS'
    have hW : PackW pb (cmdB c) L3 := by
      have e : numB kn ++ intB c.req ++ fieldsB (ckOf c.kind) c = cmdB c := by
        unfold cmdB; rw [List.append_assoc, show c.kind.toNat = kn by omega]
      rw [e] at hW; exact hW
    repeat (first | refine SemW.run tblOk ?_ | refine IntG.nw (by omega) ?_ | refine IntG.nu8 (by omega) ?_ | refine IntG.nu32 (by omega) ?_ | refine IntG.nu64 (by omega) ?_ | refine IntG.wr' rfl ?_ | refine Chk.mk (by omega) ?_ | (refine BrG.id ?_; first | with_reducible refine BrG.t ?_ | with_reducible refine BrG.f ?_ | with_reducible refine BrG.notG ?_ | with_reducible refine BrG.nn ?_ | with_reducible refine BrG.ns ?_ | refine BrG.pos (by omega) ?_ | refine BrG.neg (by omega) ?_ | with_reducible refine BrG.pos rfl ?_ | refine BrG.pos (by assumption) ?_ | refine BrG.neg (by assumption) ?_ | refine BrG.pos (by decide) ?_ | refine BrG.neg (by decide) ?_) | refine Chk.mk (ptr_ok tblOk rfl rfl) ?_ | refine NilG.mk (fun _ => by kernel_rfl) ?_ | refine Chk.mk (by decide) ?_ | refine hS.ld rfl ?_ | refine hS.ldn rfl ?_ | (refine hS.st rfl rfl ?_; intro _ hS))
    refine Cl.mono (wseal_spec hW (hS.part (L := L3)) (by omega)) ?_
    rintro _ w12 ⟨rfl, hS'⟩
    have hS := hS.call0 hS'
    rw [if_pos hlen]
    have hread : readC (frameB (cmdB c)) = some (bareF (ckOf c.kind) c) := by
      unfold readC
      rw [openS_frame hlen]
      exact cmdS_cmdB (by omega) hok h1 h2 hsm
    have hfl := frameB_len (cmdB c)
    repeat (first | refine SemW.run tblOk ?_ | refine IntG.nw (by omega) ?_ | refine IntG.nu8 (by omega) ?_ | refine IntG.nu32 (by omega) ?_ | refine IntG.nu64 (by omega) ?_ | refine IntG.wr' rfl ?_ | refine Chk.mk (by omega) ?_ | (refine BrG.id ?_; first | with_reducible refine BrG.t ?_ | with_reducible refine BrG.f ?_ | with_reducible refine BrG.notG ?_ | with_reducible refine BrG.nn ?_ | with_reducible refine BrG.ns ?_ | refine BrG.pos (by omega) ?_ | refine BrG.neg (by omega) ?_ | with_reducible refine BrG.pos rfl ?_ | refine BrG.pos (by assumption) ?_ | refine BrG.neg (by assumption) ?_ | refine BrG.pos (by decide) ?_ | refine BrG.neg (by decide) ?_) | refine Chk.mk (ptr_ok tblOk rfl rfl) ?_ | refine NilG.mk (fun _ => by kernel_rfl) ?_ | refine Chk.mk (by decide) ?_ | refine hS.ld rfl ?_ | refine hS.ldn rfl ?_ | (refine hS.st rfl rfl ?_; intro _ hS))
    refine Cl.mono (ReadCommand_spec (by omega)) ?_
    intro v w13 hP
    rw [hread] at hP
    obtain ⟨a2, cap2, L4, rfl, hv4, hS'⟩ := hP
    have hS := hS.callNew hS'
    have hbr : (bareF (ckOf c.kind) c).rows.length ≤ 1099511627776 := by
      have := (small_iff.1 (small_bare (ckOf c.kind) hsm)).1; omega
    have hrc : RightC c ↔ bareF (ckOf c.kind) c = c := ⟨fun h => h.2.2.2, fun h => ⟨h1, h2, hsm, h⟩⟩
    generalize bareF (ckOf c.kind) c = d at hv4 hbr hrc
    repeat (first | refine SemW.run tblOk ?_ | refine IntG.nw (by omega) ?_ | refine IntG.nu8 (by omega) ?_ | refine IntG.nu32 (by omega) ?_ | refine IntG.nu64 (by omega) ?_ | refine IntG.wr' rfl ?_ | refine Chk.mk (by omega) ?_ | (refine BrG.id ?_; first | with_reducible refine BrG.t ?_ | with_reducible refine BrG.f ?_ | with_reducible refine BrG.notG ?_ | with_reducible refine BrG.nn ?_ | with_reducible refine BrG.ns ?_ | refine BrG.pos (by omega) ?_ | refine BrG.neg (by omega) ?_ | with_reducible refine BrG.pos rfl ?_ | refine BrG.pos (by assumption) ?_ | refine BrG.neg (by assumption) ?_ | refine BrG.pos (by decide) ?_ | refine BrG.neg (by decide) ?_) | refine Chk.mk (ptr_ok tblOk rfl rfl) ?_ | refine NilG.mk (fun _ => by kernel_rfl) ?_ | refine Chk.mk (by decide) ?_ | refine hS.ld rfl ?_ | refine hS.ldn rfl ?_ | (refine hS.st rfl rfl ?_; intro _ hS))
    refine hS.al ?_
    intro b8 w14 _ hS
    repeat (first | refine SemW.run tblOk ?_ | refine IntG.nw (by omega) ?_ | refine IntG.nu8 (by omega) ?_ | refine IntG.nu32 (by omega) ?_ | refine IntG.nu64 (by omega) ?_ | refine IntG.wr' rfl ?_ | refine Chk.mk (by omega) ?_ | (refine BrG.id ?_; first | with_reducible refine BrG.t ?_ | with_reducible refine BrG.f ?_ | with_reducible refine BrG.notG ?_ | with_reducible refine BrG.nn ?_ | with_reducible refine BrG.ns ?_ | refine BrG.pos (by omega) ?_ | refine BrG.neg (by omega) ?_ | with_reducible refine BrG.pos rfl ?_ | refine BrG.pos (by assumption) ?_ | refine BrG.neg (by assumption) ?_ | refine BrG.pos (by decide) ?_ | refine BrG.neg (by decide) ?_) | refine Chk.mk (ptr_ok tblOk rfl rfl) ?_ | refine NilG.mk (fun _ => by kernel_rfl) ?_ | refine Chk.mk (by decide) ?_ | refine hS.ld rfl ?_ | refine hS.ldn rfl ?_ | (refine hS.st rfl rfl ?_; intro _ hS))
    refine Cl.mono (wsame_spec (x := d) (y := c) ⟨rowsAt_vec (L := L4) hS hv4, hA.rows.keep hS.nil, hbr⟩) ?_
    rintro _ w15 ⟨rfl, hS'⟩
    have hS := hS.call0 hS'
    by_cases hdc : d = c
    · rw [decide_eq_true hdc, if_pos (hrc.2 hdc)]
      repeat (first | refine SemW.run tblOk ?_ | refine IntG.nw (by omega) ?_ | refine IntG.nu8 (by omega) ?_ | refine IntG.nu32 (by omega) ?_ | refine IntG.nu64 (by omega) ?_ | refine IntG.wr' rfl ?_ | refine Chk.mk (by omega) ?_ | (refine BrG.id ?_; first | with_reducible refine BrG.t ?_ | with_reducible refine BrG.f ?_ | with_reducible refine BrG.notG ?_ | with_reducible refine BrG.nn ?_ | with_reducible refine BrG.ns ?_ | refine BrG.pos (by omega) ?_ | refine BrG.neg (by omega) ?_ | with_reducible refine BrG.pos rfl ?_ | refine BrG.pos (by assumption) ?_ | refine BrG.neg (by assumption) ?_ | refine BrG.pos (by decide) ?_ | refine BrG.neg (by decide) ?_) | refine Chk.mk (ptr_ok tblOk rfl rfl) ?_ | refine NilG.mk (fun _ => by kernel_rfl) ?_ | refine Chk.mk (by decide) ?_ | refine hS.ld rfl ?_ | refine hS.ldn rfl ?_ | (refine hS.st rfl rfl ?_; intro _ hS))
      exact ⟨rfl, hS.nil⟩
    · rw [decide_eq_false hdc, if_neg (fun h => hdc (hrc.1 h))]
      repeat (first | refine SemW.run tblOk ?_ | refine IntG.nw (by omega) ?_ | refine IntG.nu8 (by omega) ?_ | refine IntG.nu32 (by omega) ?_ | refine IntG.nu64 (by omega) ?_ | refine IntG.wr' rfl ?_ | refine Chk.mk (by omega) ?_ | (refine BrG.id ?_; first | with_reducible refine BrG.t ?_ | with_reducible refine BrG.f ?_ | with_reducible refine BrG.notG ?_ | with_reducible refine BrG.nn ?_ | with_reducible refine BrG.ns ?_ | refine BrG.pos (by omega) ?_ | refine BrG.neg (by omega) ?_ | with_reducible refine BrG.pos rfl ?_ | refine BrG.pos (by assumption) ?_ | refine BrG.neg (by assumption) ?_ | refine BrG.pos (by decide) ?_ | refine BrG.neg (by decide) ?_) | refine Chk.mk (ptr_ok tblOk rfl rfl) ?_ | refine NilG.mk (fun _ => by kernel_rfl) ?_ | refine Chk.mk (by decide) ?_ | refine hS.ld rfl ?_ | refine hS.ldn rfl ?_ | (refine hS.st rfl rfl ?_; intro _ hS))
      exact ⟨rfl, hS.nil⟩
end Go.Proofs.YthpmmfapolcaiaaDoor
