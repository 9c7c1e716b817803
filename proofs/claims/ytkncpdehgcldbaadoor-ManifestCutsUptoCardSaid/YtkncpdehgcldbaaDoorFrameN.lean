/- Package frame: four, number, Sum. -/
import Derived.Test.YtkncpdehgcldbaaDoorTbl
import Derived.Test.YtkncpdehgcldbaaDoorBase
import Derived.Test.YtkncpdehgcldbaaDoorConv
namespace Go.Proofs.YtkncpdehgcldbaaDoor
open Go Go.Eng Go.Proofs

/-- The four bytes of a number. -/
def be4 (n : Nat) : List UInt8 := [UInt8.ofNat (n / 2 ^ 24), UInt8.ofNat (n / 2 ^ 16), UInt8.ofNat (n / 2 ^ 8), UInt8.ofNat n]

theorem four_spec {w : World} (n : Nat) : Cl Tryd.prog f_frame_four [.int .u32 n] w fun v w' => v = Str (be4 n) ∧ St w [] [] w' := by
  have hS := St.start w
  refine en_frame_four rfl ?_
  repeat (first | refine SemW.run tblOk ?_ | refine IntG.nw (by omega) ?_ | refine IntG.nu8 (by omega) ?_ | refine IntG.nu32 (by omega) ?_ | refine IntG.nu64 (by omega) ?_ | refine IntG.wr' rfl ?_ | refine Chk.mk (by omega) ?_ | (refine BrG.id ?_; first | with_reducible refine BrG.t ?_ | with_reducible refine BrG.f ?_ | with_reducible refine BrG.notG ?_ | with_reducible refine BrG.nn ?_ | with_reducible refine BrG.ns ?_ | refine BrG.pos (by omega) ?_ | refine BrG.neg (by omega) ?_ | with_reducible refine BrG.pos rfl ?_ | refine BrG.pos (by assumption) ?_ | refine BrG.neg (by assumption) ?_ | refine BrG.pos (by decide) ?_ | refine BrG.neg (by decide) ?_) | refine Chk.mk (ptr_ok tblOk rfl rfl) ?_ | refine Chk.mk (by decide) ?_)
  refine hS.al ?_
  intro b w1 hb hS
  refine toStr (bs := be4 n) tblOk rfl rfl rfl rfl rfl rfl rfl (T := []) (fun w' e => ?_) ?_
  · subst e
    have e1 : (be4 n).map byteV = [.int .u8 (IntKind.u8.wrap ((n : Int).fdiv (2 ^ 24))), .int .u8 (IntKind.u8.wrap ((n : Int).fdiv (2 ^ 16))), .int .u8 (IntKind.u8.wrap ((n : Int).fdiv (2 ^ 8))), .int .u8 (IntKind.u8.wrap (n : Int))] := by
      simp only [be4, List.map_cons, List.map_nil, byteV]
      rw [← u8wrap, ← u8wrap, ← u8wrap, ← u8wrap, ← fdivP, ← fdivP, ← fdivP]
    rw [e1]; exact hS.arr (by simp)
  · repeat (first | refine SemW.run tblOk ?_ | refine IntG.nw (by omega) ?_ | refine IntG.nu8 (by omega) ?_ | refine IntG.nu32 (by omega) ?_ | refine IntG.nu64 (by omega) ?_ | refine IntG.wr' rfl ?_ | refine Chk.mk (by omega) ?_ | (refine BrG.id ?_; first | with_reducible refine BrG.t ?_ | with_reducible refine BrG.f ?_ | with_reducible refine BrG.notG ?_ | with_reducible refine BrG.nn ?_ | with_reducible refine BrG.ns ?_ | refine BrG.pos (by omega) ?_ | refine BrG.neg (by omega) ?_ | with_reducible refine BrG.pos rfl ?_ | refine BrG.pos (by assumption) ?_ | refine BrG.neg (by assumption) ?_ | refine BrG.pos (by decide) ?_ | refine BrG.neg (by decide) ?_) | refine Chk.mk (ptr_ok tblOk rfl rfl) ?_ | refine Chk.mk (by decide) ?_)
    exact ⟨rfl, hS.nil⟩

/-- The number of four bytes. -/
def num4 (l : List UInt8) : Nat := ((l.getD 0 0).toNat * 2 ^ 24 + (l.getD 1 0).toNat * 2 ^ 16) + (l.getD 2 0).toNat * 2 ^ 8 + (l.getD 3 0).toNat
theorem num4_lt (l : List UInt8) : num4 l < 4294967296 := by
  have h0 := (l.getD 0 0).toNat_lt
  have h1 := (l.getD 1 0).toNat_lt
  have h2 := (l.getD 2 0).toNat_lt
  have h3 := (l.getD 3 0).toNat_lt
  unfold num4; omega
theorem num4_be4 (n : Nat) (hn : n < 4294967296) : num4 (be4 n) = n := by
  simp only [num4, be4, List.getD_eq_getElem?_getD]
  simp [UInt8.toNat_ofNat']
  omega

theorem u32wrap (n : Nat) (h : n < 4294967296) : IntKind.u32.wrap (n : Int) = (n : Int) := by
  rw [wrapU .u32 rfl]; congr 1; exact Nat.mod_eq_of_lt h
theorem num4_eq (l : List UInt8) : orI .u32 (orI .u32 (orI .u32 (IntKind.u32.wrap (IntKind.u32.wrap ((l.getD 0 0).toNat : Int) * 2 ^ 24)) (IntKind.u32.wrap (IntKind.u32.wrap ((l.getD 1 0).toNat : Int) * 2 ^ 16)))
    (IntKind.u32.wrap (IntKind.u32.wrap ((l.getD 2 0).toNat : Int) * 2 ^ 8))) (IntKind.u32.wrap ((l.getD 3 0).toNat : Int)) = (num4 l : Int) := by
  have h0 := (l.getD 0 0).toNat_lt
  have h1 := (l.getD 1 0).toNat_lt
  have h2 := (l.getD 2 0).toNat_lt
  have h3 := (l.getD 3 0).toNat_lt
  unfold num4
  generalize (l.getD 0 0).toNat = a at *
  generalize (l.getD 1 0).toNat = b at *
  generalize (l.getD 2 0).toNat = c at *
  generalize (l.getD 3 0).toNat = d at *
  rw [u32wrap a (by omega), u32wrap b (by omega), u32wrap c (by omega), u32wrap d (by omega)]
  rw [show (a : Int) * 2 ^ 24 = ((a * 2 ^ 24 : Nat) : Int) by simp, show (b : Int) * 2 ^ 16 = ((b * 2 ^ 16 : Nat) : Int) by simp, show (c : Int) * 2 ^ 8 = ((c * 2 ^ 8 : Nat) : Int) by simp]
  rw [u32wrap _ (by omega), u32wrap _ (by omega), u32wrap _ (by omega)]
  rw [orU .u32 rfl _ _ (by show _ < 2 ^ 32; omega) (by show _ < 2 ^ 32; omega), or_add a (b * 2 ^ 16) 24 (by omega)]
  rw [orU .u32 rfl _ _ (by show _ < 2 ^ 32; omega) (by show _ < 2 ^ 32; omega), show a * 2 ^ 24 + b * 2 ^ 16 = (a * 2 ^ 8 + b) * 2 ^ 16 by omega, or_add _ (c * 2 ^ 8) 16 (by omega)]
  rw [orU .u32 rfl _ _ (by show _ < 2 ^ 32; omega) (by show _ < 2 ^ 32; omega), show (a * 2 ^ 8 + b) * 2 ^ 16 + c * 2 ^ 8 = ((a * 2 ^ 8 + b) * 2 ^ 8 + c) * 2 ^ 8 by omega, or_add _ d 8 (by omega)]

theorem number_spec {w : World} (l : List UInt8) (hl : 4 ≤ l.length) : Cl Tryd.prog f_frame_number [Str l] w fun v w' => v = .int .u32 (num4 l) ∧ St w [] [] w' := by
  have hS := St.start w
  refine en_frame_number rfl ?_
  repeat (first | refine SemW.run tblOk ?_ | refine IntG.nw (by omega) ?_ | refine IntG.nu8 (by omega) ?_ | refine IntG.nu32 (by omega) ?_ | refine IntG.nu64 (by omega) ?_ | refine IntG.wr' rfl ?_ | refine Chk.mk (by omega) ?_ | (refine BrG.id ?_; first | with_reducible refine BrG.t ?_ | with_reducible refine BrG.f ?_ | with_reducible refine BrG.notG ?_ | with_reducible refine BrG.nn ?_ | with_reducible refine BrG.ns ?_ | refine BrG.pos (by omega) ?_ | refine BrG.neg (by omega) ?_ | with_reducible refine BrG.pos rfl ?_ | refine BrG.pos (by assumption) ?_ | refine BrG.neg (by assumption) ?_ | refine BrG.pos (by decide) ?_ | refine BrG.neg (by decide) ?_) | refine Chk.mk (ptr_ok tblOk rfl rfl) ?_ | refine Chk.mk (by decide) ?_)
  refine SemW.draw tblOk mixed (fun _ => True) [] [0, 1, 2, 3, 4, 5, 6, 7, 8, 9, 10, 11, 12, 13, 14, 15, 16, 17, 18] (by kernel_rfl) trivial ?_
  repeat (first | refine SemW.run tblOk ?_ | refine IntG.nw (by omega) ?_ | refine IntG.nu8 (by omega) ?_ | refine IntG.nu32 (by omega) ?_ | refine IntG.nu64 (by omega) ?_ | refine IntG.wr' rfl ?_ | refine Chk.mk (by omega) ?_ | (refine BrG.id ?_; first | with_reducible refine BrG.t ?_ | with_reducible refine BrG.f ?_ | with_reducible refine BrG.notG ?_ | with_reducible refine BrG.nn ?_ | with_reducible refine BrG.ns ?_ | refine BrG.pos (by omega) ?_ | refine BrG.neg (by omega) ?_ | with_reducible refine BrG.pos rfl ?_ | refine BrG.pos (by assumption) ?_ | refine BrG.neg (by assumption) ?_ | refine BrG.pos (by decide) ?_ | refine BrG.neg (by decide) ?_) | refine Chk.mk (ptr_ok tblOk rfl rfl) ?_ | refine Chk.mk (by decide) ?_)
  exact ⟨congrArg (Value.int .u32) (num4_eq l), hS.drew⟩
def crcBit (reg : Int) : Int := xorI .u32 (reg.fdiv (2 ^ (min (1 : Int).toNat 32))) (andI .u32 3988292384 (IntKind.u32.wrap (0 - andI .u32 reg 1)))
def crcBits : Nat → Int → Int
  | 0, r => r
  | n + 1, r => crcBit (crcBits n r)
def crcByte (reg : Int) (c : UInt8) : Int := crcBits 8 (xorI .u32 reg (IntKind.u32.wrap c.toNat))
def crcs (reg : Int) (p : List UInt8) : Int := p.foldl crcByte reg
def crc (parts : List (List UInt8)) : Int := xorI .u32 (if IntKind.u32.signed then -1 else IntKind.u32.max) (parts.foldl crcs 4294967295)

theorem wrapU_range (k : IntKind) (hs : k.signed = false) (z : Int) : ∃ n : Nat, k.wrap z = (n : Int) ∧ n < 2 ^ k.bits := by
  have h1 : k.wrap z = z % ((2 ^ k.bits : Nat) : Int) := by unfold IntKind.wrap; simp only [hs]; simp
  have hp : (0 : Int) < ((2 ^ k.bits : Nat) : Int) := by have := Nat.two_pow_pos k.bits; omega
  have h2 := Int.emod_nonneg z (Int.ne_of_gt hp)
  have h3 := Int.emod_lt_of_pos z hp
  exact ⟨(z % ((2 ^ k.bits : Nat) : Int)).toNat, by rw [h1]; omega, by omega⟩
def crcN (parts : List (List UInt8)) : Nat := (crc parts).toNat
theorem crcN_eq (parts : List (List UInt8)) : crc parts = (crcN parts : Int) ∧ crcN parts < 4294967296 := by
  obtain ⟨n, h1, h2⟩ := wrapU_range .u32 rfl ((BitVec.ofInt IntKind.u32.bits (if IntKind.u32.signed then -1 else IntKind.u32.max) ^^^ BitVec.ofInt IntKind.u32.bits (parts.foldl crcs 4294967295)).toNat)
  have h3 : crc parts = n := h1
  have h4 : n < 4294967296 := h2
  unfold crcN
  rw [h3]; exact ⟨by simp, by simpa using h4⟩
theorem crcs_succ (r : Int) (p : List UInt8) (j : Nat) (hj : j < p.length) : crcs r (p.take (j + 1)) = crcByte (crcs r (p.take j)) (p.getD j 0) := by
  unfold crcs; rw [List.take_succ_eq_append_getElem hj, List.foldl_append]; simp [hj]
theorem foldl_succ (r : Int) (ps : List (List UInt8)) (k : Nat) (hk : k < ps.length) : (ps.take (k + 1)).foldl crcs r = crcs ((ps.take k).foldl crcs r) ps[k] := by
  rw [List.take_succ_eq_append_getElem hk, List.foldl_append]; rfl

set_option maxHeartbeats 400000 in
theorem Sum_spec {w : World} {a : Option Addr} {cap : Nat} {ps : List (List UInt8)} (hb : ps.length ≤ 9000000000000000000) (hl : ∀ p ∈ ps, p.length ≤ 9000000000000000000)
    (ha : Arr w [] a (ps.map Str)) : Cl Tryd.prog f_frame_Sum [.slice a ps.length cap] w fun v w' => v = .int .u32 (crcN ps) ∧ St w [] [] w' := by
  rw [← (crcN_eq ps).1]
  refine en_frame_Sum rfl ?_
  repeat (first | refine SemW.run tblOk ?_ | refine IntG.nw (by omega) ?_ | refine IntG.nu8 (by omega) ?_ | refine IntG.nu32 (by omega) ?_ | refine IntG.nu64 (by omega) ?_ | refine IntG.wr' rfl ?_ | refine Chk.mk (by omega) ?_ | (refine BrG.id ?_; first | with_reducible refine BrG.t ?_ | with_reducible refine BrG.f ?_ | with_reducible refine BrG.notG ?_ | with_reducible refine BrG.nn ?_ | with_reducible refine BrG.ns ?_ | refine BrG.pos (by omega) ?_ | refine BrG.neg (by omega) ?_ | with_reducible refine BrG.pos rfl ?_ | refine BrG.pos (by assumption) ?_ | refine BrG.neg (by assumption) ?_ | refine BrG.pos (by decide) ?_ | refine BrG.neg (by decide) ?_) | refine Chk.mk (ptr_ok tblOk rfl rfl) ?_ | refine Chk.mk (by decide) ?_)
  refine SemW.loop (fun k : Nat => [(7, .slice a ps.length cap), (8, .int .i64 ps.length), (9, .int .i64 k), (3, .int .u32 ((ps.take k).foldl crcs 4294967295))]) (fun k w' => k ≤ ps.length ∧ w' = w) (fun k => ps.length - k) 0
    ⟨rfl, rfl, rfl, rfl, trivial⟩ ⟨Nat.zero_le _, rfl⟩ ?_
  rintro k w' ⟨hk, rfl⟩
  repeat (first | refine SemW.run tblOk ?_ | refine IntG.nw (by omega) ?_ | refine IntG.nu8 (by omega) ?_ | refine IntG.nu32 (by omega) ?_ | refine IntG.nu64 (by omega) ?_ | refine IntG.wr' rfl ?_ | refine Chk.mk (by omega) ?_ | (refine BrG.id ?_; first | with_reducible refine BrG.t ?_ | with_reducible refine BrG.f ?_ | with_reducible refine BrG.notG ?_ | with_reducible refine BrG.nn ?_ | with_reducible refine BrG.ns ?_ | refine BrG.pos (by omega) ?_ | refine BrG.neg (by omega) ?_ | with_reducible refine BrG.pos rfl ?_ | refine BrG.pos (by assumption) ?_ | refine BrG.neg (by assumption) ?_ | refine BrG.pos (by decide) ?_ | refine BrG.neg (by decide) ?_) | refine Chk.mk (ptr_ok tblOk rfl rfl) ?_ | refine Chk.mk (by decide) ?_)
  refine BrG.dec (fun h => ?_) (fun h => ?_)
  · have hk' : k < ps.length := by omega
    obtain ⟨b, off, rfl, -, hc⟩ := ha k (Str ps[k]) (by simp [hk'])
    repeat (first | refine SemW.run tblOk ?_ | refine IntG.nw (by omega) ?_ | refine IntG.nu8 (by omega) ?_ | refine IntG.nu32 (by omega) ?_ | refine IntG.nu64 (by omega) ?_ | refine IntG.wr' rfl ?_ | refine Chk.mk (by omega) ?_ | (refine BrG.id ?_; first | with_reducible refine BrG.t ?_ | with_reducible refine BrG.f ?_ | with_reducible refine BrG.notG ?_ | with_reducible refine BrG.nn ?_ | with_reducible refine BrG.ns ?_ | refine BrG.pos (by omega) ?_ | refine BrG.neg (by omega) ?_ | with_reducible refine BrG.pos rfl ?_ | refine BrG.pos (by assumption) ?_ | refine BrG.neg (by assumption) ?_ | refine BrG.pos (by decide) ?_ | refine BrG.neg (by decide) ?_) | refine Chk.mk (ptr_ok tblOk rfl rfl) ?_ | refine Chk.mk (by decide) ?_)
    refine LdC.mk ⟨_, fun _ e => by subst e; simpa using hc, ?_⟩
    repeat (first | refine SemW.run tblOk ?_ | refine IntG.nw (by omega) ?_ | refine IntG.nu8 (by omega) ?_ | refine IntG.nu32 (by omega) ?_ | refine IntG.nu64 (by omega) ?_ | refine IntG.wr' rfl ?_ | refine Chk.mk (by omega) ?_ | (refine BrG.id ?_; first | with_reducible refine BrG.t ?_ | with_reducible refine BrG.f ?_ | with_reducible refine BrG.notG ?_ | with_reducible refine BrG.nn ?_ | with_reducible refine BrG.ns ?_ | refine BrG.pos (by omega) ?_ | refine BrG.neg (by omega) ?_ | with_reducible refine BrG.pos rfl ?_ | refine BrG.pos (by assumption) ?_ | refine BrG.neg (by assumption) ?_ | refine BrG.pos (by decide) ?_ | refine BrG.neg (by decide) ?_) | refine Chk.mk (ptr_ok tblOk rfl rfl) ?_ | refine Chk.mk (by decide) ?_)
    have hpl := hl ps[k] (by simp)
    refine SemW.loop (fun j : Nat => [(7, .slice (some ⟨b, off, none⟩) ps.length cap), (8, .int .i64 ps.length), (9, .int .i64 k), (5, Str ps[k]), (14, .int .i64 ps[k].length), (15, .int .i64 j), (3, .int .u32 (crcs ((ps.take k).foldl crcs 4294967295) (ps[k].take j)))]) (fun j w'' => j ≤ ps[k].length ∧ w'' = w') (fun j => ps[k].length - j) 0
      ⟨rfl, rfl, rfl, rfl, rfl, rfl, rfl, trivial⟩ ⟨Nat.zero_le _, rfl⟩ ?_
    rintro j w'' ⟨hj, rfl⟩
    repeat (first | refine SemW.run tblOk ?_ | refine IntG.nw (by omega) ?_ | refine IntG.nu8 (by omega) ?_ | refine IntG.nu32 (by omega) ?_ | refine IntG.nu64 (by omega) ?_ | refine IntG.wr' rfl ?_ | refine Chk.mk (by omega) ?_ | (refine BrG.id ?_; first | with_reducible refine BrG.t ?_ | with_reducible refine BrG.f ?_ | with_reducible refine BrG.notG ?_ | with_reducible refine BrG.nn ?_ | with_reducible refine BrG.ns ?_ | refine BrG.pos (by omega) ?_ | refine BrG.neg (by omega) ?_ | with_reducible refine BrG.pos rfl ?_ | refine BrG.pos (by assumption) ?_ | refine BrG.neg (by assumption) ?_ | refine BrG.pos (by decide) ?_ | refine BrG.neg (by decide) ?_) | refine Chk.mk (ptr_ok tblOk rfl rfl) ?_ | refine Chk.mk (by decide) ?_)
    refine BrG.dec (fun h => ?_) (fun h => ?_)
    · have hj' : j < ps[k].length := by omega
      repeat (first | refine SemW.run tblOk ?_ | refine IntG.nw (by omega) ?_ | refine IntG.nu8 (by omega) ?_ | refine IntG.nu32 (by omega) ?_ | refine IntG.nu64 (by omega) ?_ | refine IntG.wr' rfl ?_ | refine Chk.mk (by omega) ?_ | (refine BrG.id ?_; first | with_reducible refine BrG.t ?_ | with_reducible refine BrG.f ?_ | with_reducible refine BrG.notG ?_ | with_reducible refine BrG.nn ?_ | with_reducible refine BrG.ns ?_ | refine BrG.pos (by omega) ?_ | refine BrG.neg (by omega) ?_ | with_reducible refine BrG.pos rfl ?_ | refine BrG.pos (by assumption) ?_ | refine BrG.neg (by assumption) ?_ | refine BrG.pos (by decide) ?_ | refine BrG.neg (by decide) ?_) | refine Chk.mk (ptr_ok tblOk rfl rfl) ?_ | refine Chk.mk (by decide) ?_)
      refine SemW.loop (fun i : Nat => [(7, .slice (some ⟨b, off, none⟩) ps.length cap), (8, .int .i64 ps.length), (9, .int .i64 k), (5, Str ps[k]), (14, .int .i64 ps[k].length), (15, .int .i64 j), (24, .int .i64 i), (3, .int .u32 (crcBits i (xorI .u32 (crcs ((ps.take k).foldl crcs 4294967295) (ps[k].take j)) (IntKind.u32.wrap (ps[k].getD j 0).toNat))))]) (fun i w3 => i ≤ 8 ∧ w3 = w'') (fun i => 8 - i) 0
        ⟨rfl, rfl, rfl, rfl, rfl, rfl, rfl, rfl, trivial⟩ ⟨Nat.zero_le _, rfl⟩ ?_
      rintro i w3 ⟨hi, rfl⟩
      repeat (first | refine SemW.run tblOk ?_ | refine IntG.nw (by omega) ?_ | refine IntG.nu8 (by omega) ?_ | refine IntG.nu32 (by omega) ?_ | refine IntG.nu64 (by omega) ?_ | refine IntG.wr' rfl ?_ | refine Chk.mk (by omega) ?_ | (refine BrG.id ?_; first | with_reducible refine BrG.t ?_ | with_reducible refine BrG.f ?_ | with_reducible refine BrG.notG ?_ | with_reducible refine BrG.nn ?_ | with_reducible refine BrG.ns ?_ | refine BrG.pos (by omega) ?_ | refine BrG.neg (by omega) ?_ | with_reducible refine BrG.pos rfl ?_ | refine BrG.pos (by assumption) ?_ | refine BrG.neg (by assumption) ?_ | refine BrG.pos (by decide) ?_ | refine BrG.neg (by decide) ?_) | refine Chk.mk (ptr_ok tblOk rfl rfl) ?_ | refine Chk.mk (by decide) ?_)
      refine BrG.dec (fun h => ?_) (fun h => ?_)
      · repeat (first | refine SemW.run tblOk ?_ | refine IntG.nw (by omega) ?_ | refine IntG.nu8 (by omega) ?_ | refine IntG.nu32 (by omega) ?_ | refine IntG.nu64 (by omega) ?_ | refine IntG.wr' rfl ?_ | refine Chk.mk (by omega) ?_ | (refine BrG.id ?_; first | with_reducible refine BrG.t ?_ | with_reducible refine BrG.f ?_ | with_reducible refine BrG.notG ?_ | with_reducible refine BrG.nn ?_ | with_reducible refine BrG.ns ?_ | refine BrG.pos (by omega) ?_ | refine BrG.neg (by omega) ?_ | with_reducible refine BrG.pos rfl ?_ | refine BrG.pos (by assumption) ?_ | refine BrG.neg (by assumption) ?_ | refine BrG.pos (by decide) ?_ | refine BrG.neg (by decide) ?_) | refine Chk.mk (ptr_ok tblOk rfl rfl) ?_ | refine Chk.mk (by decide) ?_)
        refine ⟨i + 1, ⟨rfl, rfl, rfl, rfl, rfl, rfl, rfl, rfl, trivial⟩, ⟨by omega, rfl⟩, by omega⟩
      · have : i = 8 := by omega
        subst this
        repeat (first | refine SemW.run tblOk ?_ | refine IntG.nw (by omega) ?_ | refine IntG.nu8 (by omega) ?_ | refine IntG.nu32 (by omega) ?_ | refine IntG.nu64 (by omega) ?_ | refine IntG.wr' rfl ?_ | refine Chk.mk (by omega) ?_ | (refine BrG.id ?_; first | with_reducible refine BrG.t ?_ | with_reducible refine BrG.f ?_ | with_reducible refine BrG.notG ?_ | with_reducible refine BrG.nn ?_ | with_reducible refine BrG.ns ?_ | refine BrG.pos (by omega) ?_ | refine BrG.neg (by omega) ?_ | with_reducible refine BrG.pos rfl ?_ | refine BrG.pos (by assumption) ?_ | refine BrG.neg (by assumption) ?_ | refine BrG.pos (by decide) ?_ | refine BrG.neg (by decide) ?_) | refine Chk.mk (ptr_ok tblOk rfl rfl) ?_ | refine Chk.mk (by decide) ?_)
        refine ⟨j + 1, ⟨rfl, rfl, rfl, rfl, rfl, rfl, ?_, trivial⟩, ⟨by omega, rfl⟩, by omega⟩
        show _ = (_ : Value)
        rw [crcs_succ _ _ _ hj']
        rfl
    · have : j = ps[k].length := by omega
      subst this
      repeat (first | refine SemW.run tblOk ?_ | refine IntG.nw (by omega) ?_ | refine IntG.nu8 (by omega) ?_ | refine IntG.nu32 (by omega) ?_ | refine IntG.nu64 (by omega) ?_ | refine IntG.wr' rfl ?_ | refine Chk.mk (by omega) ?_ | (refine BrG.id ?_; first | with_reducible refine BrG.t ?_ | with_reducible refine BrG.f ?_ | with_reducible refine BrG.notG ?_ | with_reducible refine BrG.nn ?_ | with_reducible refine BrG.ns ?_ | refine BrG.pos (by omega) ?_ | refine BrG.neg (by omega) ?_ | with_reducible refine BrG.pos rfl ?_ | refine BrG.pos (by assumption) ?_ | refine BrG.neg (by assumption) ?_ | refine BrG.pos (by decide) ?_ | refine BrG.neg (by decide) ?_) | refine Chk.mk (ptr_ok tblOk rfl rfl) ?_ | refine Chk.mk (by decide) ?_)
      refine ⟨k + 1, ⟨rfl, rfl, rfl, ?_, trivial⟩, ⟨by omega, rfl⟩, by omega⟩
      show _ = (_ : Value)
      rw [foldl_succ _ _ _ hk', List.take_length]
  · have : k = ps.length := by omega
    subst this
    repeat (first | refine SemW.run tblOk ?_ | refine IntG.nw (by omega) ?_ | refine IntG.nu8 (by omega) ?_ | refine IntG.nu32 (by omega) ?_ | refine IntG.nu64 (by omega) ?_ | refine IntG.wr' rfl ?_ | refine Chk.mk (by omega) ?_ | (refine BrG.id ?_; first | with_reducible refine BrG.t ?_ | with_reducible refine BrG.f ?_ | with_reducible refine BrG.notG ?_ | with_reducible refine BrG.nn ?_ | with_reducible refine BrG.ns ?_ | refine BrG.pos (by omega) ?_ | refine BrG.neg (by omega) ?_ | with_reducible refine BrG.pos rfl ?_ | refine BrG.pos (by assumption) ?_ | refine BrG.neg (by assumption) ?_ | refine BrG.pos (by decide) ?_ | refine BrG.neg (by decide) ?_) | refine Chk.mk (ptr_ok tblOk rfl rfl) ?_ | refine Chk.mk (by decide) ?_)
    rw [List.take_length]
    exact ⟨rfl, St.start _⟩

def frameB (p : List UInt8) : List UInt8 := be4 p.length ++ be4 (crcN [be4 p.length, p]) ++ p
def sealB (ps : List (List UInt8)) : List UInt8 := (ps.map frameB).flatten
theorem frameB_len (p : List UInt8) : (frameB p).length = p.length + 8 := by simp [frameB, be4]
theorem sealB_len (ps : List (List UInt8)) : (sealB ps).length = sumLen ps + 8 * ps.length := by
  induction ps with
  | nil => rfl
  | cons p r ih => simp only [sealB, sumLen, List.map_cons, List.flatten_cons, List.length_append, List.sum_cons, List.length_cons, frameB_len] at ih ⊢; omega
theorem sealB_succ (ps : List (List UInt8)) (k : Nat) (hk : k < ps.length) : sealB (ps.take (k + 1)) = sealB (ps.take k) ++ frameB ps[k] := by
  unfold sealB; rw [List.take_succ_eq_append_getElem hk, List.map_append, List.flatten_append]; simp
def okLens (ps : List (List UInt8)) : Bool := ps.all fun p => decide (p.length ≤ 65536)

end Go.Proofs.YtkncpdehgcldbaaDoor
