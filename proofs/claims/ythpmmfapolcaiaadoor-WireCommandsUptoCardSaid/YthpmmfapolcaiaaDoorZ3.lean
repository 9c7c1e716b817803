/- Texts of this claim, one behind the other. -/
import Derived.Test.YthpmmfapolcaiaaDoorZ1
import Derived.Test.YthpmmfapolcaiaaDoorZ0
import Derived.Test.YthpmmfapolcaiaaDoorZ2
/- Package frame: four, number, Sum. -/
namespace Go.Proofs.YthpmmfapolcaiaaDoor
open Go Go.Eng Go.Proofs

/-- The four bytes of a number. -/
def be4 (n : Nat) : List UInt8 := [UInt8.ofNat (n / 2 ^ 24), UInt8.ofNat (n / 2 ^ 16), UInt8.ofNat (n / 2 ^ 8), UInt8.ofNat n]

theorem four_spec {w : World} (n : Nat) : Cl Tryd.prog f_frame_four [.int .u32 n] w fun v w' => v = Str (be4 n) ∧ St w [] [] w' := by
  have hS := St.start w
  refine en_frame_four rfl ?_
  repeat (first | refine SemW.run tblOk ?_ | refine jA (by omega) ?_ | refine jB (by omega) ?_ | refine jC (by omega) ?_ | refine jD (by omega) ?_ | refine jE rfl ?_ | refine jF (by omega) ?_ | (refine jG ?_; first | with_reducible (first | refine jH ?_ | refine jI ?_ | refine jJ ?_ | refine jK ?_ | refine jL ?_) | refine jM (by omega) ?_ | refine jN (by omega) ?_ | with_reducible refine jM rfl ?_ | refine jM (by assumption) ?_ | refine jN (by assumption) ?_ | refine jM (by decide) ?_ | refine jN (by decide) ?_) | refine jF (ptr_ok tblOk rfl rfl) ?_ | refine jO (fun _ => by kernel_rfl) ?_ | refine jF (by decide) ?_)
  refine hS.al ?_
  intro b w1 hb hS
  refine toStr (bs := be4 n) tblOk rfl rfl rfl rfl rfl rfl rfl (T := []) (fun w' e => ?_) ?_
  · subst e
    have e1 : (be4 n).map byteV = [.int .u8 (IntKind.u8.wrap ((n : Int).fdiv (2 ^ 24))), .int .u8 (IntKind.u8.wrap ((n : Int).fdiv (2 ^ 16))), .int .u8 (IntKind.u8.wrap ((n : Int).fdiv (2 ^ 8))), .int .u8 (IntKind.u8.wrap (n : Int))] := by
      simp only [be4, List.map_cons, List.map_nil, byteV]
      rw [← u8wrap, ← u8wrap, ← u8wrap, ← u8wrap, ← fdivP, ← fdivP, ← fdivP]
    rw [e1]; exact hS.arr (by simp)
  · repeat (first | refine SemW.run tblOk ?_ | refine jA (by omega) ?_ | refine jB (by omega) ?_ | refine jC (by omega) ?_ | refine jD (by omega) ?_ | refine jE rfl ?_ | refine jF (by omega) ?_ | (refine jG ?_; first | with_reducible (first | refine jH ?_ | refine jI ?_ | refine jJ ?_ | refine jK ?_ | refine jL ?_) | refine jM (by omega) ?_ | refine jN (by omega) ?_ | with_reducible refine jM rfl ?_ | refine jM (by assumption) ?_ | refine jN (by assumption) ?_ | refine jM (by decide) ?_ | refine jN (by decide) ?_) | refine jF (ptr_ok tblOk rfl rfl) ?_ | refine jO (fun _ => by kernel_rfl) ?_ | refine jF (by decide) ?_)
    exact ⟨rfl, hS.nil⟩

/-- The number of four bytes. -/
def num4 (l : List UInt8) : Nat := ((l.getD 0 0).toNat * 2 ^ 24 + (l.getD 1 0).toNat * 2 ^ 16) + (l.getD 2 0).toNat * 2 ^ 8 + (l.getD 3 0).toNat
theorem num4_lt (l : List UInt8) : num4 l < 4294967296 := by
  have h0 := (l.getD 0 0).toNat_lt
  have h1 := (l.getD 1 0).toNat_lt
  have h2 := (l.getD 2 0).toNat_lt
  have h3 := (l.getD 3 0).toNat_lt
  unfold num4; omega
theorem num4_be4 (n : Nat) (hn : n < 4294967296) : num4 (be4 n) = n := by
  simp only [num4, be4, List.getD_eq_getElem?_getD]
  simp [UInt8.toNat_ofNat']
  omega

theorem u32wrap (n : Nat) (h : n < 4294967296) : IntKind.u32.wrap (n : Int) = (n : Int) := by
  rw [wrapU .u32 rfl]; congr 1; exact Nat.mod_eq_of_lt h
theorem num4_eq (l : List UInt8) : orI .u32 (orI .u32 (orI .u32 (IntKind.u32.wrap (IntKind.u32.wrap ((l.getD 0 0).toNat : Int) * 2 ^ 24)) (IntKind.u32.wrap (IntKind.u32.wrap ((l.getD 1 0).toNat : Int) * 2 ^ 16)))
    (IntKind.u32.wrap (IntKind.u32.wrap ((l.getD 2 0).toNat : Int) * 2 ^ 8))) (IntKind.u32.wrap ((l.getD 3 0).toNat : Int)) = (num4 l : Int) := by
  have h0 := (l.getD 0 0).toNat_lt
  have h1 := (l.getD 1 0).toNat_lt
  have h2 := (l.getD 2 0).toNat_lt
  have h3 := (l.getD 3 0).toNat_lt
  unfold num4
  generalize (l.getD 0 0).toNat = a at *
  generalize (l.getD 1 0).toNat = b at *
  generalize (l.getD 2 0).toNat = c at *
  generalize (l.getD 3 0).toNat = d at *
  rw [u32wrap a (by omega), u32wrap b (by omega), u32wrap c (by omega), u32wrap d (by omega)]
  rw [show (a : Int) * 2 ^ 24 = ((a * 2 ^ 24 : Nat) : Int) by simp, show (b : Int) * 2 ^ 16 = ((b * 2 ^ 16 : Nat) : Int) by simp, show (c : Int) * 2 ^ 8 = ((c * 2 ^ 8 : Nat) : Int) by simp]
  rw [u32wrap _ (by omega), u32wrap _ (by omega), u32wrap _ (by omega)]
  rw [orU .u32 rfl _ _ (by show _ < 2 ^ 32; omega) (by show _ < 2 ^ 32; omega), or_add a (b * 2 ^ 16) 24 (by omega)]
  rw [orU .u32 rfl _ _ (by show _ < 2 ^ 32; omega) (by show _ < 2 ^ 32; omega), show a * 2 ^ 24 + b * 2 ^ 16 = (a * 2 ^ 8 + b) * 2 ^ 16 by omega, or_add _ (c * 2 ^ 8) 16 (by omega)]
  rw [orU .u32 rfl _ _ (by show _ < 2 ^ 32; omega) (by show _ < 2 ^ 32; omega), show (a * 2 ^ 8 + b) * 2 ^ 16 + c * 2 ^ 8 = ((a * 2 ^ 8 + b) * 2 ^ 8 + c) * 2 ^ 8 by omega, or_add _ d 8 (by omega)]

theorem number_spec {w : World} (l : List UInt8) (hl : 4 ≤ l.length) : Cl Tryd.prog f_frame_number [Str l] w fun v w' => v = .int .u32 (num4 l) ∧ St w [] [] w' := by
  have hS := St.start w
  refine en_frame_number rfl ?_
  repeat (first | refine SemW.run tblOk ?_ | refine jA (by omega) ?_ | refine jB (by omega) ?_ | refine jC (by omega) ?_ | refine jD (by omega) ?_ | refine jE rfl ?_ | refine jF (by omega) ?_ | (refine jG ?_; first | with_reducible (first | refine jH ?_ | refine jI ?_ | refine jJ ?_ | refine jK ?_ | refine jL ?_) | refine jM (by omega) ?_ | refine jN (by omega) ?_ | with_reducible refine jM rfl ?_ | refine jM (by assumption) ?_ | refine jN (by assumption) ?_ | refine jM (by decide) ?_ | refine jN (by decide) ?_) | refine jF (ptr_ok tblOk rfl rfl) ?_ | refine jO (fun _ => by kernel_rfl) ?_ | refine jF (by decide) ?_)
  refine SemW.draw tblOk mixed (fun _ => True) [] [0, 1, 2, 3, 4, 5, 6, 7, 8, 9, 10, 11, 12, 13, 14, 15, 16, 17, 18] (by kernel_rfl) trivial ?_
  repeat (first | refine SemW.run tblOk ?_ | refine jA (by omega) ?_ | refine jB (by omega) ?_ | refine jC (by omega) ?_ | refine jD (by omega) ?_ | refine jE rfl ?_ | refine jF (by omega) ?_ | (refine jG ?_; first | with_reducible (first | refine jH ?_ | refine jI ?_ | refine jJ ?_ | refine jK ?_ | refine jL ?_) | refine jM (by omega) ?_ | refine jN (by omega) ?_ | with_reducible refine jM rfl ?_ | refine jM (by assumption) ?_ | refine jN (by assumption) ?_ | refine jM (by decide) ?_ | refine jN (by decide) ?_) | refine jF (ptr_ok tblOk rfl rfl) ?_ | refine jO (fun _ => by kernel_rfl) ?_ | refine jF (by decide) ?_)
  exact ⟨congrArg (Value.int .u32) (num4_eq l), hS.drew⟩
def crcBit (reg : Int) : Int := xorI .u32 (reg.fdiv (2 ^ (min (1 : Int).toNat 32))) (andI .u32 3988292384 (IntKind.u32.wrap (0 - andI .u32 reg 1)))
def crcBits : Nat → Int → Int
  | 0, r => r
  | n + 1, r => crcBit (crcBits n r)
def crcByte (reg : Int) (c : UInt8) : Int := crcBits 8 (xorI .u32 reg (IntKind.u32.wrap c.toNat))
def crcs (reg : Int) (p : List UInt8) : Int := p.foldl crcByte reg
def crc (parts : List (List UInt8)) : Int := xorI .u32 (if IntKind.u32.signed then -1 else IntKind.u32.max) (parts.foldl crcs 4294967295)

theorem wrapU_range (k : IntKind) (hs : k.signed = false) (z : Int) : ∃ n : Nat, k.wrap z = (n : Int) ∧ n < 2 ^ k.bits := by
  have h1 : k.wrap z = z % ((2 ^ k.bits : Nat) : Int) := by unfold IntKind.wrap; simp only [hs]; simp
  have hp : (0 : Int) < ((2 ^ k.bits : Nat) : Int) := by have := Nat.two_pow_pos k.bits; omega
  have h2 := Int.emod_nonneg z (Int.ne_of_gt hp)
  have h3 := Int.emod_lt_of_pos z hp
  exact ⟨(z % ((2 ^ k.bits : Nat) : Int)).toNat, by rw [h1]; omega, by omega⟩
def crcN (parts : List (List UInt8)) : Nat := (crc parts).toNat
theorem crcN_eq (parts : List (List UInt8)) : crc parts = (crcN parts : Int) ∧ crcN parts < 4294967296 := by
  obtain ⟨n, h1, h2⟩ := wrapU_range .u32 rfl ((BitVec.ofInt IntKind.u32.bits (if IntKind.u32.signed then -1 else IntKind.u32.max) ^^^ BitVec.ofInt IntKind.u32.bits (parts.foldl crcs 4294967295)).toNat)
  have h3 : crc parts = n := h1
  have h4 : n < 4294967296 := h2
  unfold crcN
  rw [h3]; exact ⟨by simp, by simpa using h4⟩
theorem crcs_succ (r : Int) (p : List UInt8) (j : Nat) (hj : j < p.length) : crcs r (p.take (j + 1)) = crcByte (crcs r (p.take j)) (p.getD j 0) := by
  unfold crcs; rw [List.take_succ_eq_append_getElem hj, List.foldl_append]; simp [hj]
theorem foldl_succ (r : Int) (ps : List (List UInt8)) (k : Nat) (hk : k < ps.length) : (ps.take (k + 1)).foldl crcs r = crcs ((ps.take k).foldl crcs r) ps[k] := by
  rw [List.take_succ_eq_append_getElem hk, List.foldl_append]; rfl

set_option maxHeartbeats 400000 in
theorem Sum_spec {w : World} {a : Option Addr} {cap : Nat} {ps : List (List UInt8)} (hb : ps.length ≤ 9000000000000000000) (hl : ∀ p ∈ ps, p.length ≤ 9000000000000000000)
    (ha : Arr w [] a (ps.map Str)) : Cl Tryd.prog f_frame_Sum [.slice a ps.length cap] w fun v w' => v = .int .u32 (crcN ps) ∧ St w [] [] w' := by
  rw [← (crcN_eq ps).1]
  refine en_frame_Sum rfl ?_
  repeat (first | refine SemW.run tblOk ?_ | refine jA (by omega) ?_ | refine jB (by omega) ?_ | refine jC (by omega) ?_ | refine jD (by omega) ?_ | refine jE rfl ?_ | refine jF (by omega) ?_ | (refine jG ?_; first | with_reducible (first | refine jH ?_ | refine jI ?_ | refine jJ ?_ | refine jK ?_ | refine jL ?_) | refine jM (by omega) ?_ | refine jN (by omega) ?_ | with_reducible refine jM rfl ?_ | refine jM (by assumption) ?_ | refine jN (by assumption) ?_ | refine jM (by decide) ?_ | refine jN (by decide) ?_) | refine jF (ptr_ok tblOk rfl rfl) ?_ | refine jO (fun _ => by kernel_rfl) ?_ | refine jF (by decide) ?_)
  refine SemW.loop (fun k : Nat => [(7, .slice a ps.length cap), (8, .int .i64 ps.length), (9, .int .i64 k), (3, .int .u32 ((ps.take k).foldl crcs 4294967295))]) (fun k w' => k ≤ ps.length ∧ w' = w) (fun k => ps.length - k) 0
    ⟨rfl, rfl, rfl, rfl, trivial⟩ ⟨Nat.zero_le _, rfl⟩ ?_
  rintro k w' ⟨hk, rfl⟩
  repeat (first | refine SemW.run tblOk ?_ | refine jA (by omega) ?_ | refine jB (by omega) ?_ | refine jC (by omega) ?_ | refine jD (by omega) ?_ | refine jE rfl ?_ | refine jF (by omega) ?_ | (refine jG ?_; first | with_reducible (first | refine jH ?_ | refine jI ?_ | refine jJ ?_ | refine jK ?_ | refine jL ?_) | refine jM (by omega) ?_ | refine jN (by omega) ?_ | with_reducible refine jM rfl ?_ | refine jM (by assumption) ?_ | refine jN (by assumption) ?_ | refine jM (by decide) ?_ | refine jN (by decide) ?_) | refine jF (ptr_ok tblOk rfl rfl) ?_ | refine jO (fun _ => by kernel_rfl) ?_ | refine jF (by decide) ?_)
  refine BrG.dec (fun h => ?_) (fun h => ?_)
  · have hk' : k < ps.length := by omega
    obtain ⟨b, off, rfl, -, hc⟩ := ha k (Str ps[k]) (by simp [hk'])
    repeat (first | refine SemW.run tblOk ?_ | refine jA (by omega) ?_ | refine jB (by omega) ?_ | refine jC (by omega) ?_ | refine jD (by omega) ?_ | refine jE rfl ?_ | refine jF (by omega) ?_ | (refine jG ?_; first | with_reducible (first | refine jH ?_ | refine jI ?_ | refine jJ ?_ | refine jK ?_ | refine jL ?_) | refine jM (by omega) ?_ | refine jN (by omega) ?_ | with_reducible refine jM rfl ?_ | refine jM (by assumption) ?_ | refine jN (by assumption) ?_ | refine jM (by decide) ?_ | refine jN (by decide) ?_) | refine jF (ptr_ok tblOk rfl rfl) ?_ | refine jO (fun _ => by kernel_rfl) ?_ | refine jF (by decide) ?_)
    refine LdC.mk ⟨_, fun _ e => by subst e; simpa using hc, ?_⟩
    repeat (first | refine SemW.run tblOk ?_ | refine jA (by omega) ?_ | refine jB (by omega) ?_ | refine jC (by omega) ?_ | refine jD (by omega) ?_ | refine jE rfl ?_ | refine jF (by omega) ?_ | (refine jG ?_; first | with_reducible (first | refine jH ?_ | refine jI ?_ | refine jJ ?_ | refine jK ?_ | refine jL ?_) | refine jM (by omega) ?_ | refine jN (by omega) ?_ | with_reducible refine jM rfl ?_ | refine jM (by assumption) ?_ | refine jN (by assumption) ?_ | refine jM (by decide) ?_ | refine jN (by decide) ?_) | refine jF (ptr_ok tblOk rfl rfl) ?_ | refine jO (fun _ => by kernel_rfl) ?_ | refine jF (by decide) ?_)
    have hpl := hl ps[k] (by simp)
    refine SemW.loop (fun j : Nat => [(7, .slice (some ⟨b, off, none⟩) ps.length cap), (8, .int .i64 ps.length), (9, .int .i64 k), (5, Str ps[k]), (14, .int .i64 ps[k].length), (15, .int .i64 j), (3, .int .u32 (crcs ((ps.take k).foldl crcs 4294967295) (ps[k].take j)))]) (fun j w'' => j ≤ ps[k].length ∧ w'' = w') (fun j => ps[k].length - j) 0
      ⟨rfl, rfl, rfl, rfl, rfl, rfl, rfl, trivial⟩ ⟨Nat.zero_le _, rfl⟩ ?_
    rintro j w'' ⟨hj, rfl⟩
    repeat (first | refine SemW.run tblOk ?_ | refine jA (by omega) ?_ | refine jB (by omega) ?_ | refine jC (by omega) ?_ | refine jD (by omega) ?_ | refine jE rfl ?_ | refine jF (by omega) ?_ | (refine jG ?_; first | with_reducible (first | refine jH ?_ | refine jI ?_ | refine jJ ?_ | refine jK ?_ | refine jL ?_) | refine jM (by omega) ?_ | refine jN (by omega) ?_ | with_reducible refine jM rfl ?_ | refine jM (by assumption) ?_ | refine jN (by assumption) ?_ | refine jM (by decide) ?_ | refine jN (by decide) ?_) | refine jF (ptr_ok tblOk rfl rfl) ?_ | refine jO (fun _ => by kernel_rfl) ?_ | refine jF (by decide) ?_)
    refine BrG.dec (fun h => ?_) (fun h => ?_)
    · have hj' : j < ps[k].length := by omega
      repeat (first | refine SemW.run tblOk ?_ | refine jA (by omega) ?_ | refine jB (by omega) ?_ | refine jC (by omega) ?_ | refine jD (by omega) ?_ | refine jE rfl ?_ | refine jF (by omega) ?_ | (refine jG ?_; first | with_reducible (first | refine jH ?_ | refine jI ?_ | refine jJ ?_ | refine jK ?_ | refine jL ?_) | refine jM (by omega) ?_ | refine jN (by omega) ?_ | with_reducible refine jM rfl ?_ | refine jM (by assumption) ?_ | refine jN (by assumption) ?_ | refine jM (by decide) ?_ | refine jN (by decide) ?_) | refine jF (ptr_ok tblOk rfl rfl) ?_ | refine jO (fun _ => by kernel_rfl) ?_ | refine jF (by decide) ?_)
      refine SemW.loop (fun i : Nat => [(7, .slice (some ⟨b, off, none⟩) ps.length cap), (8, .int .i64 ps.length), (9, .int .i64 k), (5, Str ps[k]), (14, .int .i64 ps[k].length), (15, .int .i64 j), (24, .int .i64 i), (3, .int .u32 (crcBits i (xorI .u32 (crcs ((ps.take k).foldl crcs 4294967295) (ps[k].take j)) (IntKind.u32.wrap (ps[k].getD j 0).toNat))))]) (fun i w3 => i ≤ 8 ∧ w3 = w'') (fun i => 8 - i) 0
        ⟨rfl, rfl, rfl, rfl, rfl, rfl, rfl, rfl, trivial⟩ ⟨Nat.zero_le _, rfl⟩ ?_
      rintro i w3 ⟨hi, rfl⟩
      repeat (first | refine SemW.run tblOk ?_ | refine jA (by omega) ?_ | refine jB (by omega) ?_ | refine jC (by omega) ?_ | refine jD (by omega) ?_ | refine jE rfl ?_ | refine jF (by omega) ?_ | (refine jG ?_; first | with_reducible (first | refine jH ?_ | refine jI ?_ | refine jJ ?_ | refine jK ?_ | refine jL ?_) | refine jM (by omega) ?_ | refine jN (by omega) ?_ | with_reducible refine jM rfl ?_ | refine jM (by assumption) ?_ | refine jN (by assumption) ?_ | refine jM (by decide) ?_ | refine jN (by decide) ?_) | refine jF (ptr_ok tblOk rfl rfl) ?_ | refine jO (fun _ => by kernel_rfl) ?_ | refine jF (by decide) ?_)
      refine BrG.dec (fun h => ?_) (fun h => ?_)
      · repeat (first | refine SemW.run tblOk ?_ | refine jA (by omega) ?_ | refine jB (by omega) ?_ | refine jC (by omega) ?_ | refine jD (by omega) ?_ | refine jE rfl ?_ | refine jF (by omega) ?_ | (refine jG ?_; first | with_reducible (first | refine jH ?_ | refine jI ?_ | refine jJ ?_ | refine jK ?_ | refine jL ?_) | refine jM (by omega) ?_ | refine jN (by omega) ?_ | with_reducible refine jM rfl ?_ | refine jM (by assumption) ?_ | refine jN (by assumption) ?_ | refine jM (by decide) ?_ | refine jN (by decide) ?_) | refine jF (ptr_ok tblOk rfl rfl) ?_ | refine jO (fun _ => by kernel_rfl) ?_ | refine jF (by decide) ?_)
        refine ⟨i + 1, ⟨rfl, rfl, rfl, rfl, rfl, rfl, rfl, rfl, trivial⟩, ⟨by omega, rfl⟩, by omega⟩
      · have : i = 8 := by omega
        subst this
        repeat (first | refine SemW.run tblOk ?_ | refine jA (by omega) ?_ | refine jB (by omega) ?_ | refine jC (by omega) ?_ | refine jD (by omega) ?_ | refine jE rfl ?_ | refine jF (by omega) ?_ | (refine jG ?_; first | with_reducible (first | refine jH ?_ | refine jI ?_ | refine jJ ?_ | refine jK ?_ | refine jL ?_) | refine jM (by omega) ?_ | refine jN (by omega) ?_ | with_reducible refine jM rfl ?_ | refine jM (by assumption) ?_ | refine jN (by assumption) ?_ | refine jM (by decide) ?_ | refine jN (by decide) ?_) | refine jF (ptr_ok tblOk rfl rfl) ?_ | refine jO (fun _ => by kernel_rfl) ?_ | refine jF (by decide) ?_)
        refine ⟨j + 1, ⟨rfl, rfl, rfl, rfl, rfl, rfl, ?_, trivial⟩, ⟨by omega, rfl⟩, by omega⟩
        show _ = (_ : Value)
        rw [crcs_succ _ _ _ hj']
        rfl
    · have : j = ps[k].length := by omega
      subst this
      repeat (first | refine SemW.run tblOk ?_ | refine jA (by omega) ?_ | refine jB (by omega) ?_ | refine jC (by omega) ?_ | refine jD (by omega) ?_ | refine jE rfl ?_ | refine jF (by omega) ?_ | (refine jG ?_; first | with_reducible (first | refine jH ?_ | refine jI ?_ | refine jJ ?_ | refine jK ?_ | refine jL ?_) | refine jM (by omega) ?_ | refine jN (by omega) ?_ | with_reducible refine jM rfl ?_ | refine jM (by assumption) ?_ | refine jN (by assumption) ?_ | refine jM (by decide) ?_ | refine jN (by decide) ?_) | refine jF (ptr_ok tblOk rfl rfl) ?_ | refine jO (fun _ => by kernel_rfl) ?_ | refine jF (by decide) ?_)
      refine ⟨k + 1, ⟨rfl, rfl, rfl, ?_, trivial⟩, ⟨by omega, rfl⟩, by omega⟩
      show _ = (_ : Value)
      rw [foldl_succ _ _ _ hk', List.take_length]
  · have : k = ps.length := by omega
    subst this
    repeat (first | refine SemW.run tblOk ?_ | refine jA (by omega) ?_ | refine jB (by omega) ?_ | refine jC (by omega) ?_ | refine jD (by omega) ?_ | refine jE rfl ?_ | refine jF (by omega) ?_ | (refine jG ?_; first | with_reducible (first | refine jH ?_ | refine jI ?_ | refine jJ ?_ | refine jK ?_ | refine jL ?_) | refine jM (by omega) ?_ | refine jN (by omega) ?_ | with_reducible refine jM rfl ?_ | refine jM (by assumption) ?_ | refine jN (by assumption) ?_ | refine jM (by decide) ?_ | refine jN (by decide) ?_) | refine jF (ptr_ok tblOk rfl rfl) ?_ | refine jO (fun _ => by kernel_rfl) ?_ | refine jF (by decide) ?_)
    rw [List.take_length]
    exact ⟨rfl, St.start _⟩

def frameB (p : List UInt8) : List UInt8 := be4 p.length ++ be4 (crcN [be4 p.length, p]) ++ p
def sealB (ps : List (List UInt8)) : List UInt8 := (ps.map frameB).flatten
theorem frameB_len (p : List UInt8) : (frameB p).length = p.length + 8 := by simp [frameB, be4]
theorem sealB_len (ps : List (List UInt8)) : (sealB ps).length = sumLen ps + 8 * ps.length := by
  induction ps with
  | nil => rfl
  | cons p r ih => simp only [sealB, sumLen, List.map_cons, List.flatten_cons, List.length_append, List.sum_cons, List.length_cons, frameB_len] at ih ⊢; omega
theorem sealB_succ (ps : List (List UInt8)) (k : Nat) (hk : k < ps.length) : sealB (ps.take (k + 1)) = sealB (ps.take k) ++ frameB ps[k] := by
  unfold sealB; rw [List.take_succ_eq_append_getElem hk, List.map_append, List.flatten_append]; simp
def okLens (ps : List (List UInt8)) : Bool := ps.all fun p => decide (p.length ≤ 65536)

end Go.Proofs.YthpmmfapolcaiaaDoor

/- Package frame: First. -/
namespace Go.Proofs.YthpmmfapolcaiaaDoor
open Go Go.Eng Go.Proofs

/-- First: the payload of the frame at a place, the place behind it, the error. -/
def firstM (t : List UInt8) (k : Nat) : List UInt8 × Nat × Int :=
  if t.length < k + 8 then ([], 0, 1)
  else if 65536 < num4 (t.drop k) ∨ (t.drop k).length < num4 (t.drop k) + 8 then ([], 0, 1)
  else if crcN [(t.drop k).take 4, ((t.drop k).take (8 + num4 (t.drop k))).drop 8] = num4 ((t.drop k).drop 4) then (((t.drop k).take (8 + num4 (t.drop k))).drop 8, k + 8 + num4 (t.drop k), 0)
  else ([], 0, 1)

set_option maxHeartbeats 1000000 in
theorem First_spec {w : World} (t : List UInt8) (k : Nat) (ht : t.length ≤ 140737488355328) (hk : k ≤ t.length) :
    Cl Tryd.prog f_frame_First [Str t, .int .i64 k] w fun v w' => v = .tuple ⟨[Str (firstM t k).1, .int .i64 (firstM t k).2.1, .int .i64 (firstM t k).2.2]⟩ ∧ St w [] [] w' := by
  have hS := St.start w
  refine en_frame_First rfl ?_
  unfold firstM
  by_cases h1 : t.length < k + 8
  · rw [if_pos h1]
    repeat (first | refine SemW.run tblOk ?_ | refine jA (by omega) ?_ | refine jB (by omega) ?_ | refine jC (by omega) ?_ | refine jD (by omega) ?_ | refine jE rfl ?_ | refine jF (by omega) ?_ | (refine jG ?_; first | with_reducible (first | refine jH ?_ | refine jI ?_ | refine jJ ?_ | refine jK ?_ | refine jL ?_) | refine jM (by omega) ?_ | refine jN (by omega) ?_ | with_reducible refine jM rfl ?_ | refine jM (by assumption) ?_ | refine jN (by assumption) ?_ | refine jM (by decide) ?_ | refine jN (by decide) ?_) | refine jF (ptr_ok tblOk rfl rfl) ?_ | refine jO (fun _ => by kernel_rfl) ?_ | refine jF (by decide) ?_)
    exact ⟨rfl, hS⟩
  · rw [if_neg h1]
    repeat (first | refine SemW.run tblOk ?_ | refine jA (by omega) ?_ | refine jB (by omega) ?_ | refine jC (by omega) ?_ | refine jD (by omega) ?_ | refine jE rfl ?_ | refine jF (by omega) ?_ | (refine jG ?_; first | with_reducible (first | refine jH ?_ | refine jI ?_ | refine jJ ?_ | refine jK ?_ | refine jL ?_) | refine jM (by omega) ?_ | refine jN (by omega) ?_ | with_reducible refine jM rfl ?_ | refine jM (by assumption) ?_ | refine jN (by assumption) ?_ | refine jM (by decide) ?_ | refine jN (by decide) ?_) | refine jF (ptr_ok tblOk rfl rfl) ?_ | refine jO (fun _ => by kernel_rfl) ?_ | refine jF (by decide) ?_)
    refine (number_spec (t.drop k) (by simp; omega)).mono ?_
    rintro _ w1 ⟨rfl, hS'⟩
    have hS := hS.call0 hS'
    have hrl : (t.drop k).length = t.length - k := by simp
    rw [show List.drop (k : Int).toNat t = t.drop k from rfl]
    generalize t.drop k = rest at hrl ⊢
    have hn := num4_lt rest
    generalize num4 rest = n at hn ⊢
    by_cases h2 : 65536 < n
    · rw [if_pos (.inl h2)]
      repeat (first | refine SemW.run tblOk ?_ | refine jA (by omega) ?_ | refine jB (by omega) ?_ | refine jC (by omega) ?_ | refine jD (by omega) ?_ | refine jE rfl ?_ | refine jF (by omega) ?_ | (refine jG ?_; first | with_reducible (first | refine jH ?_ | refine jI ?_ | refine jJ ?_ | refine jK ?_ | refine jL ?_) | refine jM (by omega) ?_ | refine jN (by omega) ?_ | with_reducible refine jM rfl ?_ | refine jM (by assumption) ?_ | refine jN (by assumption) ?_ | refine jM (by decide) ?_ | refine jN (by decide) ?_) | refine jF (ptr_ok tblOk rfl rfl) ?_ | refine jO (fun _ => by kernel_rfl) ?_ | refine jF (by decide) ?_)
      exact ⟨rfl, hS⟩
    · repeat (first | refine SemW.run tblOk ?_ | refine jA (by omega) ?_ | refine jB (by omega) ?_ | refine jC (by omega) ?_ | refine jD (by omega) ?_ | refine jE rfl ?_ | refine jF (by omega) ?_ | (refine jG ?_; first | with_reducible (first | refine jH ?_ | refine jI ?_ | refine jJ ?_ | refine jK ?_ | refine jL ?_) | refine jM (by omega) ?_ | refine jN (by omega) ?_ | with_reducible refine jM rfl ?_ | refine jM (by assumption) ?_ | refine jN (by assumption) ?_ | refine jM (by decide) ?_ | refine jN (by decide) ?_) | refine jF (ptr_ok tblOk rfl rfl) ?_ | refine jO (fun _ => by kernel_rfl) ?_ | refine jF (by decide) ?_)
      by_cases h3 : rest.length < n + 8
      · rw [if_pos (.inr h3)]
        repeat (first | refine SemW.run tblOk ?_ | refine jA (by omega) ?_ | refine jB (by omega) ?_ | refine jC (by omega) ?_ | refine jD (by omega) ?_ | refine jE rfl ?_ | refine jF (by omega) ?_ | (refine jG ?_; first | with_reducible (first | refine jH ?_ | refine jI ?_ | refine jJ ?_ | refine jK ?_ | refine jL ?_) | refine jM (by omega) ?_ | refine jN (by omega) ?_ | with_reducible refine jM rfl ?_ | refine jM (by assumption) ?_ | refine jN (by assumption) ?_ | refine jM (by decide) ?_ | refine jN (by decide) ?_) | refine jF (ptr_ok tblOk rfl rfl) ?_ | refine jO (fun _ => by kernel_rfl) ?_ | refine jF (by decide) ?_)
        exact ⟨rfl, hS⟩
      · rw [if_neg (by omega)]
        repeat (first | refine SemW.run tblOk ?_ | refine jA (by omega) ?_ | refine jB (by omega) ?_ | refine jC (by omega) ?_ | refine jD (by omega) ?_ | refine jE rfl ?_ | refine jF (by omega) ?_ | (refine jG ?_; first | with_reducible (first | refine jH ?_ | refine jI ?_ | refine jJ ?_ | refine jK ?_ | refine jL ?_) | refine jM (by omega) ?_ | refine jN (by omega) ?_ | with_reducible refine jM rfl ?_ | refine jM (by assumption) ?_ | refine jN (by assumption) ?_ | refine jM (by decide) ?_ | refine jN (by decide) ?_) | refine jF (ptr_ok tblOk rfl rfl) ?_ | refine jO (fun _ => by kernel_rfl) ?_ | refine jF (by decide) ?_)
        refine SemW.draw tblOk mixed (fun w' => St w [] [] w') [7, 8] [0, 1, 2, 5, 6, 3, 4, 7, 8] (by kernel_rfl) hS.drew ?_
        have hS := hS.drew
        repeat (first | refine SemW.run tblOk ?_ | refine jA (by omega) ?_ | refine jB (by omega) ?_ | refine jC (by omega) ?_ | refine jD (by omega) ?_ | refine jE rfl ?_ | refine jF (by omega) ?_ | (refine jG ?_; first | with_reducible (first | refine jH ?_ | refine jI ?_ | refine jJ ?_ | refine jK ?_ | refine jL ?_) | refine jM (by omega) ?_ | refine jN (by omega) ?_ | with_reducible refine jM rfl ?_ | refine jM (by assumption) ?_ | refine jN (by assumption) ?_ | refine jM (by decide) ?_ | refine jN (by decide) ?_) | refine jF (ptr_ok tblOk rfl rfl) ?_ | refine jO (fun _ => by kernel_rfl) ?_ | refine jF (by decide) ?_)
        refine hS.al ?_
        intro b2 w2 _ hS
        refine Chk.mk hS.nil ?_
        refine (Sum_spec (ps := [rest.take 4, (rest.take (8 + n)).drop 8]) (by simp) (by simp; omega) (hS.arr (b := b2) (by simp))).mono ?_
        rintro _ w3 ⟨rfl, hS'⟩
        have hS := (hS.call0 hS').nil
        refine Chk.mk hS ?_
        refine (number_spec (rest.drop 4) (by simp; omega)).mono ?_
        rintro _ w4 ⟨rfl, hS'⟩
        have hS := hS.call0 hS'
        by_cases h5 : crcN [rest.take 4, (rest.take (8 + n)).drop 8] = num4 (rest.drop 4)
        · rw [if_pos h5]
          repeat (first | refine SemW.run tblOk ?_ | refine jA (by omega) ?_ | refine jB (by omega) ?_ | refine jC (by omega) ?_ | refine jD (by omega) ?_ | refine jE rfl ?_ | refine jF (by omega) ?_ | (refine jG ?_; first | with_reducible (first | refine jH ?_ | refine jI ?_ | refine jJ ?_ | refine jK ?_ | refine jL ?_) | refine jM (by omega) ?_ | refine jN (by omega) ?_ | with_reducible refine jM rfl ?_ | refine jM (by assumption) ?_ | refine jN (by assumption) ?_ | refine jM (by decide) ?_ | refine jN (by decide) ?_) | refine jF (ptr_ok tblOk rfl rfl) ?_ | refine jO (fun _ => by kernel_rfl) ?_ | refine jF (by decide) ?_)
          exact ⟨rfl, hS⟩
        · rw [if_neg h5]
          repeat (first | refine SemW.run tblOk ?_ | refine jA (by omega) ?_ | refine jB (by omega) ?_ | refine jC (by omega) ?_ | refine jD (by omega) ?_ | refine jE rfl ?_ | refine jF (by omega) ?_ | (refine jG ?_; first | with_reducible (first | refine jH ?_ | refine jI ?_ | refine jJ ?_ | refine jK ?_ | refine jL ?_) | refine jM (by omega) ?_ | refine jN (by omega) ?_ | with_reducible refine jM rfl ?_ | refine jM (by assumption) ?_ | refine jN (by assumption) ?_ | refine jM (by decide) ?_ | refine jN (by decide) ?_) | refine jF (ptr_ok tblOk rfl rfl) ?_ | refine jO (fun _ => by kernel_rfl) ?_ | refine jF (by decide) ?_)
          exact ⟨rfl, hS⟩

/-- Scan: the payloads of the frames from the beginning on, and where they end. -/
def scanM (t : List UInt8) : Nat → Nat → List (List UInt8) × Nat
  | 0, k => ([], k)
  | fuel + 1, k => if (firstM t k).2.2 ≠ 0 then ([], k) else ((firstM t k).1 :: (scanM t fuel (firstM t k).2.1).1, (scanM t fuel (firstM t k).2.1).2)
theorem firstM_next (t : List UInt8) (k : Nat) (h : (firstM t k).2.2 = 0) : k + 8 ≤ (firstM t k).2.1 ∧ (firstM t k).2.1 ≤ t.length ∧ (firstM t k).2.1 = k + 8 + (firstM t k).1.length ∧ (firstM t k).1.length ≤ 65536 := by
  unfold firstM at h ⊢
  split at h
  · simp at h
  · rename_i h1
    rw [if_neg h1]
    split at h
    · simp at h
    · rename_i h2
      rw [if_neg h2]
      split at h
      · rename_i h3
        rw [if_pos h3]
        simp only [List.length_drop, List.length_take] at *
        omega
      · simp at h
end Go.Proofs.YthpmmfapolcaiaaDoor

/- tarmacref02: four, Sum, Frame, First. -/
namespace Go.Proofs.YthpmmfapolcaiaaDoor
open Go Go.Eng Go.Proofs
theorem be4_form (n : Nat) : be4 n = [UInt8.ofNat (n / 16777216), UInt8.ofNat (n / 65536 % 256), UInt8.ofNat (n / 256 % 256), UInt8.ofNat (n % 256)] := by
  have e : ∀ m : Nat, UInt8.ofNat m = UInt8.ofNat (m % 256) := by
    intro m
    apply UInt8.toNat_inj.1
    simp
  unfold be4
  rw [e (n / 2 ^ 16), e (n / 2 ^ 8), e n]
theorem byteV_small (m : Nat) (h : m < 256) : byteV (UInt8.ofNat m) = .int .u8 (m : Int) := by
  unfold byteV
  have : (UInt8.ofNat m).toNat = m := by simp; omega
  rw [this]
set_option maxHeartbeats 1000000 in
theorem four02_spec {w : World} (n : Nat) (hn : n < 4294967296) : Cl Tryd.prog f_tarmacref02_four [.int .u32 n] w fun v w' => v = Str (be4 n) ∧ St w [] [] w' := by
  have hS := St.start w
  have e1 : ((n : Int).tdiv 16777216) = ((n / 16777216 : Nat) : Int) := tdivN n 16777216
  have e2 : ((n : Int).tdiv 65536) = ((n / 65536 : Nat) : Int) := tdivN n 65536
  have e3 : ((n : Int).tdiv 256) = ((n / 256 : Nat) : Int) := tdivN n 256
  have e4 : (((n / 65536 : Nat) : Int).tmod 256) = ((n / 65536 % 256 : Nat) : Int) := tmodN _ 256
  have e5 : (((n / 256 : Nat) : Int).tmod 256) = ((n / 256 % 256 : Nat) : Int) := tmodN _ 256
  have e6 : ((n : Int).tmod 256) = ((n % 256 : Nat) : Int) := tmodN _ 256
  refine en_tarmacref02_four rfl ?_
  repeat (first | refine SemW.run tblOk ?_ | refine jA (by omega) ?_ | refine jB (by omega) ?_ | refine jC (by omega) ?_ | refine jD (by omega) ?_ | refine jE rfl ?_ | refine jF (by omega) ?_ | (refine jG ?_; first | with_reducible (first | refine jH ?_ | refine jI ?_ | refine jJ ?_ | refine jK ?_ | refine jL ?_) | refine jM (by omega) ?_ | refine jN (by omega) ?_ | with_reducible refine jM rfl ?_ | refine jM (by assumption) ?_ | refine jN (by assumption) ?_ | refine jM (by decide) ?_ | refine jN (by decide) ?_) | refine jF (ptr_ok tblOk rfl rfl) ?_ | refine jO (fun _ => by kernel_rfl) ?_ | refine jF (by decide) ?_)
  rw [e1]
  repeat (first | refine SemW.run tblOk ?_ | refine jA (by omega) ?_ | refine jB (by omega) ?_ | refine jC (by omega) ?_ | refine jD (by omega) ?_ | refine jE rfl ?_ | refine jF (by omega) ?_ | (refine jG ?_; first | with_reducible (first | refine jH ?_ | refine jI ?_ | refine jJ ?_ | refine jK ?_ | refine jL ?_) | refine jM (by omega) ?_ | refine jN (by omega) ?_ | with_reducible refine jM rfl ?_ | refine jM (by assumption) ?_ | refine jN (by assumption) ?_ | refine jM (by decide) ?_ | refine jN (by decide) ?_) | refine jF (ptr_ok tblOk rfl rfl) ?_ | refine jO (fun _ => by kernel_rfl) ?_ | refine jF (by decide) ?_)
  rw [e2]
  repeat (first | refine SemW.run tblOk ?_ | refine jA (by omega) ?_ | refine jB (by omega) ?_ | refine jC (by omega) ?_ | refine jD (by omega) ?_ | refine jE rfl ?_ | refine jF (by omega) ?_ | (refine jG ?_; first | with_reducible (first | refine jH ?_ | refine jI ?_ | refine jJ ?_ | refine jK ?_ | refine jL ?_) | refine jM (by omega) ?_ | refine jN (by omega) ?_ | with_reducible refine jM rfl ?_ | refine jM (by assumption) ?_ | refine jN (by assumption) ?_ | refine jM (by decide) ?_ | refine jN (by decide) ?_) | refine jF (ptr_ok tblOk rfl rfl) ?_ | refine jO (fun _ => by kernel_rfl) ?_ | refine jF (by decide) ?_)
  rw [e4]
  repeat (first | refine SemW.run tblOk ?_ | refine jA (by omega) ?_ | refine jB (by omega) ?_ | refine jC (by omega) ?_ | refine jD (by omega) ?_ | refine jE rfl ?_ | refine jF (by omega) ?_ | (refine jG ?_; first | with_reducible (first | refine jH ?_ | refine jI ?_ | refine jJ ?_ | refine jK ?_ | refine jL ?_) | refine jM (by omega) ?_ | refine jN (by omega) ?_ | with_reducible refine jM rfl ?_ | refine jM (by assumption) ?_ | refine jN (by assumption) ?_ | refine jM (by decide) ?_ | refine jN (by decide) ?_) | refine jF (ptr_ok tblOk rfl rfl) ?_ | refine jO (fun _ => by kernel_rfl) ?_ | refine jF (by decide) ?_)
  rw [e3]
  repeat (first | refine SemW.run tblOk ?_ | refine jA (by omega) ?_ | refine jB (by omega) ?_ | refine jC (by omega) ?_ | refine jD (by omega) ?_ | refine jE rfl ?_ | refine jF (by omega) ?_ | (refine jG ?_; first | with_reducible (first | refine jH ?_ | refine jI ?_ | refine jJ ?_ | refine jK ?_ | refine jL ?_) | refine jM (by omega) ?_ | refine jN (by omega) ?_ | with_reducible refine jM rfl ?_ | refine jM (by assumption) ?_ | refine jN (by assumption) ?_ | refine jM (by decide) ?_ | refine jN (by decide) ?_) | refine jF (ptr_ok tblOk rfl rfl) ?_ | refine jO (fun _ => by kernel_rfl) ?_ | refine jF (by decide) ?_)
  rw [e5]
  repeat (first | refine SemW.run tblOk ?_ | refine jA (by omega) ?_ | refine jB (by omega) ?_ | refine jC (by omega) ?_ | refine jD (by omega) ?_ | refine jE rfl ?_ | refine jF (by omega) ?_ | (refine jG ?_; first | with_reducible (first | refine jH ?_ | refine jI ?_ | refine jJ ?_ | refine jK ?_ | refine jL ?_) | refine jM (by omega) ?_ | refine jN (by omega) ?_ | with_reducible refine jM rfl ?_ | refine jM (by assumption) ?_ | refine jN (by assumption) ?_ | refine jM (by decide) ?_ | refine jN (by decide) ?_) | refine jF (ptr_ok tblOk rfl rfl) ?_ | refine jO (fun _ => by kernel_rfl) ?_ | refine jF (by decide) ?_)
  rw [e6]
  repeat (first | refine SemW.run tblOk ?_ | refine jA (by omega) ?_ | refine jB (by omega) ?_ | refine jC (by omega) ?_ | refine jD (by omega) ?_ | refine jE rfl ?_ | refine jF (by omega) ?_ | (refine jG ?_; first | with_reducible (first | refine jH ?_ | refine jI ?_ | refine jJ ?_ | refine jK ?_ | refine jL ?_) | refine jM (by omega) ?_ | refine jN (by omega) ?_ | with_reducible refine jM rfl ?_ | refine jM (by assumption) ?_ | refine jN (by assumption) ?_ | refine jM (by decide) ?_ | refine jN (by decide) ?_) | refine jF (ptr_ok tblOk rfl rfl) ?_ | refine jO (fun _ => by kernel_rfl) ?_ | refine jF (by decide) ?_)
  refine hS.al ?_
  intro r w2 _ hS
  repeat (first | refine SemW.run tblOk ?_ | refine jA (by omega) ?_ | refine jB (by omega) ?_ | refine jC (by omega) ?_ | refine jD (by omega) ?_ | refine jE rfl ?_ | refine jF (by omega) ?_ | (refine jG ?_; first | with_reducible (first | refine jH ?_ | refine jI ?_ | refine jJ ?_ | refine jK ?_ | refine jL ?_) | refine jM (by omega) ?_ | refine jN (by omega) ?_ | with_reducible refine jM rfl ?_ | refine jM (by assumption) ?_ | refine jN (by assumption) ?_ | refine jM (by decide) ?_ | refine jN (by decide) ?_) | refine jF (ptr_ok tblOk rfl rfl) ?_ | refine jO (fun _ => by kernel_rfl) ?_ | refine jF (by decide) ?_)
  refine toStr (T := []) tblOk rfl rfl rfl rfl rfl rfl (bs := be4 n) rfl (fun w' hw' => by
    subst hw'
    have := hS.arr (b := r) (T' := []) (by simp)
    rw [be4_form n]
    simp only [List.map_cons, List.map_nil, byteV_small (n / 16777216) (by omega), byteV_small (n / 65536 % 256) (by omega), byteV_small (n / 256 % 256) (by omega), byteV_small (n % 256) (by omega)]
    have hw : ∀ m : Nat, m < 256 → IntKind.u8.wrap (m : Int) = (m : Int) := by
      intro m hm
      rw [wrapU .u8 rfl]; congr 1; exact Nat.mod_eq_of_lt hm
    simp only [hw (n / 65536 % 256) (by omega), hw (n / 256 % 256) (by omega)] at this
    exact this) ?_
  repeat (first | refine SemW.run tblOk ?_ | refine jA (by omega) ?_ | refine jB (by omega) ?_ | refine jC (by omega) ?_ | refine jD (by omega) ?_ | refine jE rfl ?_ | refine jF (by omega) ?_ | (refine jG ?_; first | with_reducible (first | refine jH ?_ | refine jI ?_ | refine jJ ?_ | refine jK ?_ | refine jL ?_) | refine jM (by omega) ?_ | refine jN (by omega) ?_ | with_reducible refine jM rfl ?_ | refine jM (by assumption) ?_ | refine jN (by assumption) ?_ | refine jM (by decide) ?_ | refine jN (by decide) ?_) | refine jF (ptr_ok tblOk rfl rfl) ?_ | refine jO (fun _ => by kernel_rfl) ?_ | refine jF (by decide) ?_)
  exact ⟨rfl, hS.nil⟩
/-- One bit of the sum. -/
def bitN02 (r : Nat) : Nat := if r % 2 = 1 then (r / 2) ^^^ 3988292384 else r / 2
theorem crcBit_nat (r : Nat) (h : r < 4294967296) : crcBit (r : Int) = ((bitN02 r : Nat) : Int) ∧ bitN02 r < 4294967296 := by
  have e1 : ((r : Int).fdiv (2 ^ (min (1 : Int).toNat 32))) = ((r / 2 : Nat) : Int) := fdivP r 1
  have e2 : andI .u32 (r : Int) 1 = ((r % 2 : Nat) : Int) := by
    have := andU .u32 rfl r 1 h (by decide)
    rw [Nat.and_one_is_mod] at this; exact this
  unfold crcBit bitN02
  rw [e1, e2]
  rcases Nat.mod_two_eq_zero_or_one r with h0 | h1
  · rw [h0, if_neg (by decide)]
    have a1 : andI .u32 3988292384 (IntKind.u32.wrap (0 - ((0 : Nat) : Int))) = ((0 : Nat) : Int) := by decide +kernel
    rw [a1, xorU .u32 rfl (r / 2) 0 (by show _ < 4294967296; omega) (by decide), Nat.xor_zero]
    exact ⟨rfl, by omega⟩
  · rw [h1, if_pos rfl]
    have a1 : andI .u32 3988292384 (IntKind.u32.wrap (0 - ((1 : Nat) : Int))) = ((3988292384 : Nat) : Int) := by decide +kernel
    rw [a1, xorU .u32 rfl (r / 2) 3988292384 (by show _ < 4294967296; omega) (by decide)]
    exact ⟨rfl, Nat.xor_lt_two_pow (n := 32) (show _ < 4294967296 by omega) (by decide)⟩
theorem crcs_one (r : Int) (p : Bytes) (j : Nat) (hj : j < p.length) : crcs r (p.take (j + 1)) = crcBits 8 (xorI .u32 (crcs r (p.take j)) (IntKind.u32.wrap (p.getD j 0).toNat)) := crcs_succ r p j hj
theorem crc_end (n : Nat) (h : n < 4294967296) : xorI .u32 (if IntKind.u32.signed then -1 else IntKind.u32.max) (n : Int) = ((4294967295 - n : Nat) : Int) := by
  have e0 : (if IntKind.u32.signed then (-1 : Int) else IntKind.u32.max) = ((4294967295 : Nat) : Int) := by decide
  rw [e0, xorU .u32 rfl 4294967295 n (by decide) h]
  have h1 : (4294967295 ^^^ n) = 4294967295 - n := by
    have h2 := BitVec.toNat_not (x := BitVec.ofNat 32 n)
    rw [← BitVec.allOnes_xor, BitVec.toNat_xor, BitVec.toNat_allOnes, BitVec.toNat_ofNat, Nat.mod_eq_of_lt h] at h2
    simpa using h2
  rw [h1]
theorem crc_app (a b : Bytes) : crcN [a, b] = crcN [a ++ b] := by
  unfold crcN crc crcs
  simp only [List.foldl_cons, List.foldl_nil, List.foldl_append]
set_option maxHeartbeats 4000000 in
theorem Sum02_spec {w : World} (t : Bytes) (ht : t.length ≤ 1099511627776) : Cl Tryd.prog f_tarmacref02_Sum [Str t] w fun v w' => v = .int .u32 (crcN [t]) ∧ St w [] [] w' := by
  have hS := St.start w
  refine en_tarmacref02_Sum rfl ?_
  repeat (first | refine SemW.run tblOk ?_ | refine jA (by omega) ?_ | refine jB (by omega) ?_ | refine jC (by omega) ?_ | refine jD (by omega) ?_ | refine jE rfl ?_ | refine jF (by omega) ?_ | (refine jG ?_; first | with_reducible (first | refine jH ?_ | refine jI ?_ | refine jJ ?_ | refine jK ?_ | refine jL ?_) | refine jM (by omega) ?_ | refine jN (by omega) ?_ | with_reducible refine jM rfl ?_ | refine jM (by assumption) ?_ | refine jN (by assumption) ?_ | refine jM (by decide) ?_ | refine jN (by decide) ?_) | refine jF (ptr_ok tblOk rfl rfl) ?_ | refine jO (fun _ => by kernel_rfl) ?_ | refine jF (by decide) ?_)
  refine SemW.loop (fun z : Nat × Nat => [(0, Str t), (3, .int .u32 z.2), (4, .int .i64 z.1)]) (fun z w' => (z.1 ≤ t.length ∧ crcs 4294967295 (t.take z.1) = (z.2 : Int) ∧ z.2 < 4294967296) ∧ St w [] [] w') (fun z => t.length - z.1) (0, 4294967295)
    ⟨rfl, rfl, rfl, trivial⟩ ⟨⟨Nat.zero_le _, rfl, by decide⟩, hS⟩ ?_
  clear hS
  rintro ⟨i, n⟩ w1 ⟨⟨hi, hn, hlt⟩, hS⟩
  simp only at hi hn hlt hS ⊢
  by_cases hil : i < t.length
  · have hc := (t.getD i 0).toNat_lt
    have hsucc := crcs_one 4294967295 t i hil
    rw [hn] at hsucc
    have hx0 : xorI .u32 (n : Int) (IntKind.u32.wrap ((t.getD i 0).toNat : Int)) = ((n ^^^ (t.getD i 0).toNat : Nat) : Int) := by
      rw [u32wrap (t.getD i 0).toNat (by omega)]; exact xorU .u32 rfl n (t.getD i 0).toNat hlt (by show _ < 4294967296; omega)
    have hx1 : xorI .u32 (n : Int) ((t.getD i 0).toNat : Int) = ((n ^^^ (t.getD i 0).toNat : Nat) : Int) := xorU .u32 rfl n (t.getD i 0).toNat hlt (by show _ < 4294967296; omega)
    have hxl : n ^^^ (t.getD i 0).toNat < 4294967296 := Nat.xor_lt_two_pow (n := 32) hlt (show (t.getD i 0).toNat < 4294967296 by omega)
    rw [hx0] at hsucc
    generalize hcc : n ^^^ (t.getD i 0).toNat = x0 at hx0 hx1 hxl hsucc
    repeat (first | refine SemW.run tblOk ?_ | refine jA (by omega) ?_ | refine jB (by omega) ?_ | refine jC (by omega) ?_ | refine jD (by omega) ?_ | refine jE rfl ?_ | refine jF (by omega) ?_ | (refine jG ?_; first | with_reducible (first | refine jH ?_ | refine jI ?_ | refine jJ ?_ | refine jK ?_ | refine jL ?_) | refine jM (by omega) ?_ | refine jN (by omega) ?_ | with_reducible refine jM rfl ?_ | refine jM (by assumption) ?_ | refine jN (by assumption) ?_ | refine jM (by decide) ?_ | refine jN (by decide) ?_) | refine jF (ptr_ok tblOk rfl rfl) ?_ | refine jO (fun _ => by kernel_rfl) ?_ | refine jF (by decide) ?_)
    rw [show ((i : Nat) : Int).toNat = i from rfl, hx0]
    repeat (first | refine SemW.run tblOk ?_ | refine jA (by omega) ?_ | refine jB (by omega) ?_ | refine jC (by omega) ?_ | refine jD (by omega) ?_ | refine jE rfl ?_ | refine jF (by omega) ?_ | (refine jG ?_; first | with_reducible (first | refine jH ?_ | refine jI ?_ | refine jJ ?_ | refine jK ?_ | refine jL ?_) | refine jM (by omega) ?_ | refine jN (by omega) ?_ | with_reducible refine jM rfl ?_ | refine jM (by assumption) ?_ | refine jN (by assumption) ?_ | refine jM (by decide) ?_ | refine jN (by decide) ?_) | refine jF (ptr_ok tblOk rfl rfl) ?_ | refine jO (fun _ => by kernel_rfl) ?_ | refine jF (by decide) ?_)
    refine SemW.loop (fun z : Nat × Nat => [(0, Str t), (3, .int .u32 z.2), (4, .int .i64 i), (5, .int .i64 z.1)]) (fun z w' => (z.1 ≤ 8 ∧ crcBits z.1 ((x0 : Nat) : Int) = (z.2 : Int) ∧ z.2 < 4294967296) ∧ St w [] [] w') (fun z => 8 - z.1) (0, x0)
      ⟨rfl, rfl, rfl, rfl, trivial⟩ ⟨⟨Nat.zero_le _, rfl, hxl⟩, hS⟩ ?_
    clear hS
    rintro ⟨b, m⟩ w2 ⟨⟨hb, hm, hml⟩, hS⟩
    simp only at hb hm hml hS ⊢
    by_cases hb8 : b < 8
    · have hbit := crcBit_nat m hml
      have hm2 : crcBits (b + 1) ((x0 : Nat) : Int) = ((bitN02 m : Nat) : Int) := by
        show crcBit (crcBits b _) = _
        rw [hm]; exact hbit.1
      have e1 : ((m : Int).tmod 2) = ((m % 2 : Nat) : Int) := tmodN m 2
      have e2 : ((m : Int).tdiv 2) = ((m / 2 : Nat) : Int) := tdivN m 2
      have hx3 : xorI .u32 ((m / 2 : Nat) : Int) 3988292384 = (((m / 2) ^^^ 3988292384 : Nat) : Int) := xorU .u32 rfl (m / 2) 3988292384 (by show _ < 4294967296; omega) (by decide)
      unfold bitN02 at hm2 hbit
      by_cases h1 : m % 2 = 1
      · rw [if_pos h1] at hm2 hbit
        repeat (first | refine SemW.run tblOk ?_ | refine jA (by omega) ?_ | refine jB (by omega) ?_ | refine jC (by omega) ?_ | refine jD (by omega) ?_ | refine jE rfl ?_ | refine jF (by omega) ?_ | (refine jG ?_; first | with_reducible (first | refine jH ?_ | refine jI ?_ | refine jJ ?_ | refine jK ?_ | refine jL ?_) | refine jM (by omega) ?_ | refine jN (by omega) ?_ | with_reducible refine jM rfl ?_ | refine jM (by assumption) ?_ | refine jN (by assumption) ?_ | refine jM (by decide) ?_ | refine jN (by decide) ?_) | refine jF (ptr_ok tblOk rfl rfl) ?_ | refine jO (fun _ => by kernel_rfl) ?_ | refine jF (by decide) ?_)
        rw [e1]
        repeat (first | refine SemW.run tblOk ?_ | refine jA (by omega) ?_ | refine jB (by omega) ?_ | refine jC (by omega) ?_ | refine jD (by omega) ?_ | refine jE rfl ?_ | refine jF (by omega) ?_ | (refine jG ?_; first | with_reducible (first | refine jH ?_ | refine jI ?_ | refine jJ ?_ | refine jK ?_ | refine jL ?_) | refine jM (by omega) ?_ | refine jN (by omega) ?_ | with_reducible refine jM rfl ?_ | refine jM (by assumption) ?_ | refine jN (by assumption) ?_ | refine jM (by decide) ?_ | refine jN (by decide) ?_) | refine jF (ptr_ok tblOk rfl rfl) ?_ | refine jO (fun _ => by kernel_rfl) ?_ | refine jF (by decide) ?_)
        rw [e2]
        repeat (first | refine SemW.run tblOk ?_ | refine jA (by omega) ?_ | refine jB (by omega) ?_ | refine jC (by omega) ?_ | refine jD (by omega) ?_ | refine jE rfl ?_ | refine jF (by omega) ?_ | (refine jG ?_; first | with_reducible (first | refine jH ?_ | refine jI ?_ | refine jJ ?_ | refine jK ?_ | refine jL ?_) | refine jM (by omega) ?_ | refine jN (by omega) ?_ | with_reducible refine jM rfl ?_ | refine jM (by assumption) ?_ | refine jN (by assumption) ?_ | refine jM (by decide) ?_ | refine jN (by decide) ?_) | refine jF (ptr_ok tblOk rfl rfl) ?_ | refine jO (fun _ => by kernel_rfl) ?_ | refine jF (by decide) ?_)
        rw [hx3]
        repeat (first | refine SemW.run tblOk ?_ | refine jA (by omega) ?_ | refine jB (by omega) ?_ | refine jC (by omega) ?_ | refine jD (by omega) ?_ | refine jE rfl ?_ | refine jF (by omega) ?_ | (refine jG ?_; first | with_reducible (first | refine jH ?_ | refine jI ?_ | refine jJ ?_ | refine jK ?_ | refine jL ?_) | refine jM (by omega) ?_ | refine jN (by omega) ?_ | with_reducible refine jM rfl ?_ | refine jM (by assumption) ?_ | refine jN (by assumption) ?_ | refine jM (by decide) ?_ | refine jN (by decide) ?_) | refine jF (ptr_ok tblOk rfl rfl) ?_ | refine jO (fun _ => by kernel_rfl) ?_ | refine jF (by decide) ?_)
        exact ⟨(b + 1, (m / 2) ^^^ 3988292384), ⟨rfl, rfl, rfl, rfl, trivial⟩, ⟨⟨by simp only; omega, hm2, hbit.2⟩, hS⟩, by simp only; omega⟩
      · rw [if_neg h1] at hm2 hbit
        repeat (first | refine SemW.run tblOk ?_ | refine jA (by omega) ?_ | refine jB (by omega) ?_ | refine jC (by omega) ?_ | refine jD (by omega) ?_ | refine jE rfl ?_ | refine jF (by omega) ?_ | (refine jG ?_; first | with_reducible (first | refine jH ?_ | refine jI ?_ | refine jJ ?_ | refine jK ?_ | refine jL ?_) | refine jM (by omega) ?_ | refine jN (by omega) ?_ | with_reducible refine jM rfl ?_ | refine jM (by assumption) ?_ | refine jN (by assumption) ?_ | refine jM (by decide) ?_ | refine jN (by decide) ?_) | refine jF (ptr_ok tblOk rfl rfl) ?_ | refine jO (fun _ => by kernel_rfl) ?_ | refine jF (by decide) ?_)
        rw [e1]
        repeat (first | refine SemW.run tblOk ?_ | refine jA (by omega) ?_ | refine jB (by omega) ?_ | refine jC (by omega) ?_ | refine jD (by omega) ?_ | refine jE rfl ?_ | refine jF (by omega) ?_ | (refine jG ?_; first | with_reducible (first | refine jH ?_ | refine jI ?_ | refine jJ ?_ | refine jK ?_ | refine jL ?_) | refine jM (by omega) ?_ | refine jN (by omega) ?_ | with_reducible refine jM rfl ?_ | refine jM (by assumption) ?_ | refine jN (by assumption) ?_ | refine jM (by decide) ?_ | refine jN (by decide) ?_) | refine jF (ptr_ok tblOk rfl rfl) ?_ | refine jO (fun _ => by kernel_rfl) ?_ | refine jF (by decide) ?_)
        rw [e2]
        repeat (first | refine SemW.run tblOk ?_ | refine jA (by omega) ?_ | refine jB (by omega) ?_ | refine jC (by omega) ?_ | refine jD (by omega) ?_ | refine jE rfl ?_ | refine jF (by omega) ?_ | (refine jG ?_; first | with_reducible (first | refine jH ?_ | refine jI ?_ | refine jJ ?_ | refine jK ?_ | refine jL ?_) | refine jM (by omega) ?_ | refine jN (by omega) ?_ | with_reducible refine jM rfl ?_ | refine jM (by assumption) ?_ | refine jN (by assumption) ?_ | refine jM (by decide) ?_ | refine jN (by decide) ?_) | refine jF (ptr_ok tblOk rfl rfl) ?_ | refine jO (fun _ => by kernel_rfl) ?_ | refine jF (by decide) ?_)
        exact ⟨(b + 1, m / 2), ⟨rfl, rfl, rfl, rfl, trivial⟩, ⟨⟨by simp only; omega, hm2, hbit.2⟩, hS⟩, by simp only; omega⟩
    · have hbe : b = 8 := by omega
      subst hbe
      repeat (first | refine SemW.run tblOk ?_ | refine jA (by omega) ?_ | refine jB (by omega) ?_ | refine jC (by omega) ?_ | refine jD (by omega) ?_ | refine jE rfl ?_ | refine jF (by omega) ?_ | (refine jG ?_; first | with_reducible (first | refine jH ?_ | refine jI ?_ | refine jJ ?_ | refine jK ?_ | refine jL ?_) | refine jM (by omega) ?_ | refine jN (by omega) ?_ | with_reducible refine jM rfl ?_ | refine jM (by assumption) ?_ | refine jN (by assumption) ?_ | refine jM (by decide) ?_ | refine jN (by decide) ?_) | refine jF (ptr_ok tblOk rfl rfl) ?_ | refine jO (fun _ => by kernel_rfl) ?_ | refine jF (by decide) ?_)
      exact ⟨(i + 1, m), ⟨rfl, rfl, rfl, trivial⟩, ⟨⟨by simp only; omega, by simp only; rw [hsucc]; exact hm, hml⟩, hS⟩, by simp only; omega⟩
  · have hie : i = t.length := by omega
    subst hie
    rw [List.take_length] at hn
    have hcr : crcN [t] = 4294967295 - n := by
      have : crc [t] = ((4294967295 - n : Nat) : Int) := by
        unfold crc
        rw [List.foldl_cons, List.foldl_nil, hn]
        exact crc_end n hlt
      unfold crcN
      rw [this]; exact Int.toNat_natCast _
    rw [hcr]
    repeat (first | refine SemW.run tblOk ?_ | refine jA (by omega) ?_ | refine jB (by omega) ?_ | refine jC (by omega) ?_ | refine jD (by omega) ?_ | refine jE rfl ?_ | refine jF (by omega) ?_ | (refine jG ?_; first | with_reducible (first | refine jH ?_ | refine jI ?_ | refine jJ ?_ | refine jK ?_ | refine jL ?_) | refine jM (by omega) ?_ | refine jN (by omega) ?_ | with_reducible refine jM rfl ?_ | refine jM (by assumption) ?_ | refine jN (by assumption) ?_ | refine jM (by decide) ?_ | refine jN (by decide) ?_) | refine jF (ptr_ok tblOk rfl rfl) ?_ | refine jO (fun _ => by kernel_rfl) ?_ | refine jF (by decide) ?_)
    refine ⟨?_, hS⟩
    congr 1; omega
theorem be4_num4 (l : Bytes) (h : 4 ≤ l.length) : be4 (num4 l) = l.take 4 := by
  match l, h with
  | a :: b :: c :: d :: r, _ =>
    have ha := a.toNat_lt
    have hb := b.toNat_lt
    have hc := c.toNat_lt
    have hd := d.toNat_lt
    have e : num4 (a :: b :: c :: d :: r) = (a.toNat * 2 ^ 24 + b.toNat * 2 ^ 16) + c.toNat * 2 ^ 8 + d.toNat := rfl
    rw [be4_form _, e]
    have e1 : ((a.toNat * 2 ^ 24 + b.toNat * 2 ^ 16) + c.toNat * 2 ^ 8 + d.toNat) / 16777216 = a.toNat := by omega
    have e2 : ((a.toNat * 2 ^ 24 + b.toNat * 2 ^ 16) + c.toNat * 2 ^ 8 + d.toNat) / 65536 % 256 = b.toNat := by omega
    have e3 : ((a.toNat * 2 ^ 24 + b.toNat * 2 ^ 16) + c.toNat * 2 ^ 8 + d.toNat) / 256 % 256 = c.toNat := by omega
    have e4 : ((a.toNat * 2 ^ 24 + b.toNat * 2 ^ 16) + c.toNat * 2 ^ 8 + d.toNat) % 256 = d.toNat := by omega
    rw [e1, e2, e3, e4]
    simp
theorem Frame02_spec {w : World} (p : Bytes) (hp : p.length ≤ 1000000000) : Cl Tryd.prog f_tarmacref02_Frame [Str p] w fun v w' => v = Str (frameB p) ∧ St w [] [] w' := by
  have hS := St.start w
  have hb4 : ∀ n, (be4 n).length = 4 := fun _ => rfl
  have h1 := hb4 p.length
  refine en_tarmacref02_Frame rfl ?_
  repeat (first | refine SemW.run tblOk ?_ | refine jA (by omega) ?_ | refine jB (by omega) ?_ | refine jC (by omega) ?_ | refine jD (by omega) ?_ | refine jE rfl ?_ | refine jF (by omega) ?_ | (refine jG ?_; first | with_reducible (first | refine jH ?_ | refine jI ?_ | refine jJ ?_ | refine jK ?_ | refine jL ?_) | refine jM (by omega) ?_ | refine jN (by omega) ?_ | with_reducible refine jM rfl ?_ | refine jM (by assumption) ?_ | refine jN (by assumption) ?_ | refine jM (by decide) ?_ | refine jN (by decide) ?_) | refine jF (ptr_ok tblOk rfl rfl) ?_ | refine jO (fun _ => by kernel_rfl) ?_ | refine jF (by decide) ?_)
  refine (four02_spec p.length (by omega)).mono ?_
  rintro _ w1 ⟨rfl, hS'⟩
  have hS := hS.call0 hS'
  repeat (first | refine SemW.run tblOk ?_ | refine jA (by omega) ?_ | refine jB (by omega) ?_ | refine jC (by omega) ?_ | refine jD (by omega) ?_ | refine jE rfl ?_ | refine jF (by omega) ?_ | (refine jG ?_; first | with_reducible (first | refine jH ?_ | refine jI ?_ | refine jJ ?_ | refine jK ?_ | refine jL ?_) | refine jM (by omega) ?_ | refine jN (by omega) ?_ | with_reducible refine jM rfl ?_ | refine jM (by assumption) ?_ | refine jN (by assumption) ?_ | refine jM (by decide) ?_ | refine jN (by decide) ?_) | refine jF (ptr_ok tblOk rfl rfl) ?_ | refine jO (fun _ => by kernel_rfl) ?_ | refine jF (by decide) ?_)
  refine (Sum02_spec (be4 p.length ++ p) (by rw [List.length_append]; omega)).mono ?_
  rintro _ w2 ⟨rfl, hS'⟩
  have hS := hS.call0 hS'
  have hlt := (crcN_eq [be4 p.length ++ p]).2
  rw [← crc_app] at hlt ⊢
  generalize hcc : crcN [be4 p.length, p] = cc at hlt ⊢
  have h2 := hb4 cc
  repeat (first | refine SemW.run tblOk ?_ | refine jA (by omega) ?_ | refine jB (by omega) ?_ | refine jC (by omega) ?_ | refine jD (by omega) ?_ | refine jE rfl ?_ | refine jF (by omega) ?_ | (refine jG ?_; first | with_reducible (first | refine jH ?_ | refine jI ?_ | refine jJ ?_ | refine jK ?_ | refine jL ?_) | refine jM (by omega) ?_ | refine jN (by omega) ?_ | with_reducible refine jM rfl ?_ | refine jM (by assumption) ?_ | refine jN (by assumption) ?_ | refine jM (by decide) ?_ | refine jN (by decide) ?_) | refine jF (ptr_ok tblOk rfl rfl) ?_ | refine jO (fun _ => by kernel_rfl) ?_ | refine jF (by decide) ?_)
  refine (four02_spec cc hlt).mono ?_
  rintro _ w3 ⟨rfl, hS'⟩
  have hS := hS.call0 hS'
  have h3 : (be4 p.length ++ be4 cc).length = 8 := by rw [List.length_append]; omega
  repeat (first | refine SemW.run tblOk ?_ | refine jA (by omega) ?_ | refine jB (by omega) ?_ | refine jC (by omega) ?_ | refine jD (by omega) ?_ | refine jE rfl ?_ | refine jF (by omega) ?_ | (refine jG ?_; first | with_reducible (first | refine jH ?_ | refine jI ?_ | refine jJ ?_ | refine jK ?_ | refine jL ?_) | refine jM (by omega) ?_ | refine jN (by omega) ?_ | with_reducible refine jM rfl ?_ | refine jM (by assumption) ?_ | refine jN (by assumption) ?_ | refine jM (by decide) ?_ | refine jN (by decide) ?_) | refine jF (ptr_ok tblOk rfl rfl) ?_ | refine jO (fun _ => by kernel_rfl) ?_ | refine jF (by decide) ?_)
  refine ⟨?_, hS⟩
  unfold frameB
  rw [hcc]
def pre02 (l : Bytes) : Nat → Nat
  | 0 => 0
  | k + 1 => 256 * pre02 l k + (l.getD k 0).toNat
theorem pre02_le (l : Bytes) : ∀ k, pre02 l k < 256 ^ k
  | 0 => by show 0 < 1; omega
  | k + 1 => by
    have h1 := pre02_le l k
    have h2 := (l.getD k 0).toNat_lt
    show 256 * pre02 l k + _ < _
    rw [Nat.pow_succ]; omega
theorem pre02_num (l : Bytes) : pre02 l 4 = num4 l := by
  have h : pre02 l 4 = 256 * (256 * (256 * (256 * 0 + (l.getD 0 0).toNat) + (l.getD 1 0).toNat) + (l.getD 2 0).toNat) + (l.getD 3 0).toNat := rfl
  rw [h]
  unfold num4
  omega
theorem frame_iff {l : Bytes} (n : Nat) (hn : n = num4 l) (hl : n + 8 ≤ l.length) : frameB ((l.take (8 + n)).drop 8) = l.take (8 + n) ↔ crcN [l.take 4, (l.take (8 + n)).drop 8] = num4 (l.drop 4) := by
  have hpl : ((l.take (8 + n)).drop 8).length = n := by rw [List.length_drop, List.length_take]; omega
  have hb : be4 n = l.take 4 := by rw [hn]; exact be4_num4 l (by omega)
  have hs : l.take (8 + n) = l.take 4 ++ ((l.drop 4).take 4 ++ (l.take (8 + n)).drop 8) := by
    have e1 : l.take (8 + n) = (l.take (8 + n)).take 4 ++ (l.take (8 + n)).drop 4 := (List.take_append_drop 4 _).symm
    have e2 : (l.take (8 + n)).drop 4 = ((l.take (8 + n)).drop 4).take 4 ++ ((l.take (8 + n)).drop 4).drop 4 := (List.take_append_drop 4 _).symm
    rw [List.take_take, Nat.min_eq_left (by omega)] at e1
    rw [List.drop_drop] at e2
    have e3 : ((l.take (8 + n)).drop 4).take 4 = (l.drop 4).take 4 := by
      rw [List.drop_take, List.take_take, Nat.min_eq_left (by omega)]
    rw [e3] at e2
    conv => lhs; rw [e1, e2]
  unfold frameB
  rw [hpl, hb]
  generalize hp : (l.take (8 + n)).drop 8 = p at hs
  rw [hs, List.append_assoc, List.append_right_inj, List.append_left_inj]
  have hb2 := be4_num4 (l.drop 4) (by rw [List.length_drop]; omega)
  rw [← hb2]
  constructor
  · intro h
    have := congrArg num4 h
    rwa [num4_be4 _ (crcN_eq _).2, num4_be4 _ (num4_lt _)] at this
  · intro h; rw [h]
set_option maxHeartbeats 4000000 in
theorem First02_spec {w : World} (t : Bytes) (k : Nat) (ht : t.length ≤ 1000000000) (hk : k ≤ t.length) :
    Cl Tryd.prog f_tarmacref02_First [Str t, .int .i64 k] w fun v w' => v = .tuple ⟨[Str (firstM t k).1, .int .i64 (firstM t k).2.1, .int .i64 (firstM t k).2.2]⟩ ∧ St w [] [] w' := by
  have hS := St.start w
  have hrl : (t.drop k).length = t.length - k := List.length_drop
  refine en_tarmacref02_First rfl ?_
  unfold firstM
  by_cases h1 : t.length < k + 8
  · rw [if_pos h1]
    repeat (first | refine SemW.run tblOk ?_ | refine jA (by omega) ?_ | refine jB (by omega) ?_ | refine jC (by omega) ?_ | refine jD (by omega) ?_ | refine jE rfl ?_ | refine jF (by omega) ?_ | (refine jG ?_; first | with_reducible (first | refine jH ?_ | refine jI ?_ | refine jJ ?_ | refine jK ?_ | refine jL ?_) | refine jM (by omega) ?_ | refine jN (by omega) ?_ | with_reducible refine jM rfl ?_ | refine jM (by assumption) ?_ | refine jN (by assumption) ?_ | refine jM (by decide) ?_ | refine jN (by decide) ?_) | refine jF (ptr_ok tblOk rfl rfl) ?_ | refine jO (fun _ => by kernel_rfl) ?_ | refine jF (by decide) ?_)
    exact ⟨rfl, hS⟩
  · rw [if_neg h1]
    repeat (first | refine SemW.run tblOk ?_ | refine jA (by omega) ?_ | refine jB (by omega) ?_ | refine jC (by omega) ?_ | refine jD (by omega) ?_ | refine jE rfl ?_ | refine jF (by omega) ?_ | (refine jG ?_; first | with_reducible (first | refine jH ?_ | refine jI ?_ | refine jJ ?_ | refine jK ?_ | refine jL ?_) | refine jM (by omega) ?_ | refine jN (by omega) ?_ | with_reducible refine jM rfl ?_ | refine jM (by assumption) ?_ | refine jN (by assumption) ?_ | refine jM (by decide) ?_ | refine jN (by decide) ?_) | refine jF (ptr_ok tblOk rfl rfl) ?_ | refine jO (fun _ => by kernel_rfl) ?_ | refine jF (by decide) ?_)
    refine SemW.loop (fun i : Nat => [(0, Str t), (1, .int .i64 k), (7, .int .i64 (pre02 (t.drop k) i)), (8, .int .i64 i)]) (fun i w' => i ≤ 4 ∧ St w [] [] w') (fun i => 4 - i) 0
      ⟨rfl, rfl, rfl, rfl, trivial⟩ ⟨Nat.zero_le _, hS⟩ ?_
    clear hS
    rintro i w1 ⟨hi, hS⟩
    have hpl := pre02_le (t.drop k) i
    by_cases hi4 : i < 4
    · have hpw : 256 ^ i ≤ 16777216 := Nat.pow_le_pow_right (n := 256) (i := i) (j := 3) (by omega) (by omega)
      have hsucc : pre02 (t.drop k) (i + 1) = 256 * pre02 (t.drop k) i + (t.getD (k + i) 0).toNat := by
        show 256 * pre02 (t.drop k) i + ((t.drop k).getD i 0).toNat = _
        congr 2
        simp only [List.getD_eq_getElem?_getD, List.getElem?_drop]
      have hc := (t.getD (k + i) 0).toNat_lt
      generalize pre02 (t.drop k) i = m at hpl hsucc ⊢
      repeat (first | refine SemW.run tblOk ?_ | refine jA (by omega) ?_ | refine jB (by omega) ?_ | refine jC (by omega) ?_ | refine jD (by omega) ?_ | refine jE rfl ?_ | refine jF (by omega) ?_ | (refine jG ?_; first | with_reducible (first | refine jH ?_ | refine jI ?_ | refine jJ ?_ | refine jK ?_ | refine jL ?_) | refine jM (by omega) ?_ | refine jN (by omega) ?_ | with_reducible refine jM rfl ?_ | refine jM (by assumption) ?_ | refine jN (by assumption) ?_ | refine jM (by decide) ?_ | refine jN (by decide) ?_) | refine jF (ptr_ok tblOk rfl rfl) ?_ | refine jO (fun _ => by kernel_rfl) ?_ | refine jF (by decide) ?_)
      rw [show ((k : Int) + (i : Int)).toNat = k + i by omega]
      repeat (first | refine SemW.run tblOk ?_ | refine jA (by omega) ?_ | refine jB (by omega) ?_ | refine jC (by omega) ?_ | refine jD (by omega) ?_ | refine jE rfl ?_ | refine jF (by omega) ?_ | (refine jG ?_; first | with_reducible (first | refine jH ?_ | refine jI ?_ | refine jJ ?_ | refine jK ?_ | refine jL ?_) | refine jM (by omega) ?_ | refine jN (by omega) ?_ | with_reducible refine jM rfl ?_ | refine jM (by assumption) ?_ | refine jN (by assumption) ?_ | refine jM (by decide) ?_ | refine jN (by decide) ?_) | refine jF (ptr_ok tblOk rfl rfl) ?_ | refine jO (fun _ => by kernel_rfl) ?_ | refine jF (by decide) ?_)
      exact ⟨i + 1, ⟨rfl, rfl, by show _ = Value.int .i64 _; congr 1; omega, rfl, trivial⟩, ⟨by omega, hS⟩, by omega⟩
    · have hie : i = 4 := by omega
      subst hie
      rw [pre02_num]
      have hn := num4_lt (t.drop k)
      have hfi := frame_iff (l := t.drop k) (num4 (t.drop k)) rfl
      generalize num4 (t.drop k) = n at hn hfi ⊢
      by_cases h2 : 65536 < n
      · rw [if_pos (.inl h2)]
        repeat (first | refine SemW.run tblOk ?_ | refine jA (by omega) ?_ | refine jB (by omega) ?_ | refine jC (by omega) ?_ | refine jD (by omega) ?_ | refine jE rfl ?_ | refine jF (by omega) ?_ | (refine jG ?_; first | with_reducible (first | refine jH ?_ | refine jI ?_ | refine jJ ?_ | refine jK ?_ | refine jL ?_) | refine jM (by omega) ?_ | refine jN (by omega) ?_ | with_reducible refine jM rfl ?_ | refine jM (by assumption) ?_ | refine jN (by assumption) ?_ | refine jM (by decide) ?_ | refine jN (by decide) ?_) | refine jF (ptr_ok tblOk rfl rfl) ?_ | refine jO (fun _ => by kernel_rfl) ?_ | refine jF (by decide) ?_)
        exact ⟨rfl, hS⟩
      · by_cases h3 : (t.drop k).length < n + 8
        · rw [if_pos (.inr h3)]
          repeat (first | refine SemW.run tblOk ?_ | refine jA (by omega) ?_ | refine jB (by omega) ?_ | refine jC (by omega) ?_ | refine jD (by omega) ?_ | refine jE rfl ?_ | refine jF (by omega) ?_ | (refine jG ?_; first | with_reducible (first | refine jH ?_ | refine jI ?_ | refine jJ ?_ | refine jK ?_ | refine jL ?_) | refine jM (by omega) ?_ | refine jN (by omega) ?_ | with_reducible refine jM rfl ?_ | refine jM (by assumption) ?_ | refine jN (by assumption) ?_ | refine jM (by decide) ?_ | refine jN (by decide) ?_) | refine jF (ptr_ok tblOk rfl rfl) ?_ | refine jO (fun _ => by kernel_rfl) ?_ | refine jF (by decide) ?_)
          exact ⟨rfl, hS⟩
        · rw [if_neg (by omega)]
          have hfi := hfi (by omega)
          have hsl : ((t.take (k + 8 + n)).drop (k + 8)) = ((t.drop k).take (8 + n)).drop 8 := by
            rw [List.drop_take, List.drop_take, List.drop_drop]
            congr 1; omega
          have hsl2 : ((t.take (k + 8 + n)).drop k) = (t.drop k).take (8 + n) := by
            rw [List.drop_take]; congr 1; omega
          have hpl2 : (((t.drop k).take (8 + n)).drop 8).length = n := by rw [List.length_drop, List.length_take]; omega
          repeat (first | refine SemW.run tblOk ?_ | refine jA (by omega) ?_ | refine jB (by omega) ?_ | refine jC (by omega) ?_ | refine jD (by omega) ?_ | refine jE rfl ?_ | refine jF (by omega) ?_ | (refine jG ?_; first | with_reducible (first | refine jH ?_ | refine jI ?_ | refine jJ ?_ | refine jK ?_ | refine jL ?_) | refine jM (by omega) ?_ | refine jN (by omega) ?_ | with_reducible refine jM rfl ?_ | refine jM (by assumption) ?_ | refine jN (by assumption) ?_ | refine jM (by decide) ?_ | refine jN (by decide) ?_) | refine jF (ptr_ok tblOk rfl rfl) ?_ | refine jO (fun _ => by kernel_rfl) ?_ | refine jF (by decide) ?_)
          rw [show ((k : Int) + 8 + (n : Int)).toNat = k + 8 + n by omega, show ((k : Int) + 8).toNat = k + 8 by omega, hsl]
          refine SemW.draw tblOk mixed (fun w' => St w [] [] w') [] [0, 2, 3, 4, 5, 6, 7, 8, 1, 9] (by kernel_rfl) hS.drew ?_
          have hS := hS.drew
          repeat (first | refine SemW.run tblOk ?_ | refine jA (by omega) ?_ | refine jB (by omega) ?_ | refine jC (by omega) ?_ | refine jD (by omega) ?_ | refine jE rfl ?_ | refine jF (by omega) ?_ | (refine jG ?_; first | with_reducible (first | refine jH ?_ | refine jI ?_ | refine jJ ?_ | refine jK ?_ | refine jL ?_) | refine jM (by omega) ?_ | refine jN (by omega) ?_ | with_reducible refine jM rfl ?_ | refine jM (by assumption) ?_ | refine jN (by assumption) ?_ | refine jM (by decide) ?_ | refine jN (by decide) ?_) | refine jF (ptr_ok tblOk rfl rfl) ?_ | refine jO (fun _ => by kernel_rfl) ?_ | refine jF (by decide) ?_ | refine hS.ldC rfl ?_ | refine hS.ldnC rfl ?_)
          rw [show ((k : Int) + 8 + (n : Int)).toNat = k + 8 + n by omega, show ((k : Int)).toNat = k from rfl, hsl2]
          refine (Frame02_spec _ (by rw [hpl2]; omega)).mono ?_
          rintro _ w3 ⟨rfl, hS'⟩
          have hS := hS.call0 hS'
          refine Chk.mk hS ?_
          by_cases h5 : frameB (((t.drop k).take (8 + n)).drop 8) = (t.drop k).take (8 + n)
          · rw [if_pos (hfi.1 h5)]
            repeat (first | refine SemW.run tblOk ?_ | refine jA (by omega) ?_ | refine jB (by omega) ?_ | refine jC (by omega) ?_ | refine jD (by omega) ?_ | refine jE rfl ?_ | refine jF (by omega) ?_ | (refine jG ?_; first | with_reducible (first | refine jH ?_ | refine jI ?_ | refine jJ ?_ | refine jK ?_ | refine jL ?_) | refine jM (by omega) ?_ | refine jN (by omega) ?_ | with_reducible refine jM rfl ?_ | refine jM (by assumption) ?_ | refine jN (by assumption) ?_ | refine jM (by decide) ?_ | refine jN (by decide) ?_) | refine jF (ptr_ok tblOk rfl rfl) ?_ | refine jO (fun _ => by kernel_rfl) ?_ | refine jF (by decide) ?_ | refine hS.ldC rfl ?_ | refine hS.ldnC rfl ?_)
            repeat (first | refine SemW.run tblOk ?_ | refine jA (by omega) ?_ | refine jB (by omega) ?_ | refine jC (by omega) ?_ | refine jD (by omega) ?_ | refine jE rfl ?_ | refine jF (by omega) ?_ | (refine jG ?_; first | with_reducible (first | refine jH ?_ | refine jI ?_ | refine jJ ?_ | refine jK ?_ | refine jL ?_) | refine jM (by omega) ?_ | refine jN (by omega) ?_ | with_reducible refine jM rfl ?_ | refine jM (by assumption) ?_ | refine jN (by assumption) ?_ | refine jM (by decide) ?_ | refine jN (by decide) ?_) | refine jF (ptr_ok tblOk rfl rfl) ?_ | refine jO (fun _ => by kernel_rfl) ?_ | refine jF (by decide) ?_)
            exact ⟨rfl, hS⟩
          · rw [if_neg (fun h => h5 (hfi.2 h))]
            repeat (first | refine SemW.run tblOk ?_ | refine jA (by omega) ?_ | refine jB (by omega) ?_ | refine jC (by omega) ?_ | refine jD (by omega) ?_ | refine jE rfl ?_ | refine jF (by omega) ?_ | (refine jG ?_; first | with_reducible (first | refine jH ?_ | refine jI ?_ | refine jJ ?_ | refine jK ?_ | refine jL ?_) | refine jM (by omega) ?_ | refine jN (by omega) ?_ | with_reducible refine jM rfl ?_ | refine jM (by assumption) ?_ | refine jN (by assumption) ?_ | refine jM (by decide) ?_ | refine jN (by decide) ?_) | refine jF (ptr_ok tblOk rfl rfl) ?_ | refine jO (fun _ => by kernel_rfl) ?_ | refine jF (by decide) ?_ | refine hS.ldC rfl ?_ | refine hS.ldnC rfl ?_)
            repeat (first | refine SemW.run tblOk ?_ | refine jA (by omega) ?_ | refine jB (by omega) ?_ | refine jC (by omega) ?_ | refine jD (by omega) ?_ | refine jE rfl ?_ | refine jF (by omega) ?_ | (refine jG ?_; first | with_reducible (first | refine jH ?_ | refine jI ?_ | refine jJ ?_ | refine jK ?_ | refine jL ?_) | refine jM (by omega) ?_ | refine jN (by omega) ?_ | with_reducible refine jM rfl ?_ | refine jM (by assumption) ?_ | refine jN (by assumption) ?_ | refine jM (by decide) ?_ | refine jN (by decide) ?_) | refine jF (ptr_ok tblOk rfl rfl) ?_ | refine jO (fun _ => by kernel_rfl) ?_ | refine jF (by decide) ?_)
            exact ⟨rfl, hS⟩
end Go.Proofs.YthpmmfapolcaiaaDoor

/- Plain: frames found in a text. -/
namespace Go.Proofs.YthpmmfapolcaiaaDoor
open Go Go.Eng Go.Proofs
theorem num4_take (l : Bytes) (n : Nat) (h : 4 ≤ n) : num4 (l.take n) = num4 l := by
  unfold num4
  have e : ∀ i, i < 4 → (l.take n).getD i 0 = l.getD i 0 := by
    intro i hi
    simp only [List.getD_eq_getElem?_getD, List.getElem?_take, if_pos (show i < n by omega)]
  rw [e 0 (by omega), e 1 (by omega), e 2 (by omega), e 3 (by omega)]
theorem firstM_good {t : Bytes} {k : Nat} (h : (firstM t k).2.2 = 0) : ¬ t.length < k + 8 ∧ ¬(65536 < num4 (t.drop k) ∨ (t.drop k).length < num4 (t.drop k) + 8) ∧ crcN [(t.drop k).take 4, ((t.drop k).take (8 + num4 (t.drop k))).drop 8] = num4 ((t.drop k).drop 4) ∧
    firstM t k = (((t.drop k).take (8 + num4 (t.drop k))).drop 8, k + 8 + num4 (t.drop k), 0) := by
  unfold firstM at h ⊢
  split at h
  · cases h
  · next h1 =>
    split at h
    · cases h
    · next h2 =>
      split at h
      · next h3 => exact ⟨h1, h2, h3, by rw [if_neg h1, if_neg h2, if_pos h3]⟩
      · cases h
/-- A frame that ends ahead of the cut is found there too. -/
theorem firstM_take {t : Bytes} {k n : Nat} (h : (firstM t k).2.2 = 0) (hn : (firstM t k).2.1 ≤ n) : firstM (t.take n) k = firstM t k := by
  obtain ⟨h1, h2, h3, h4⟩ := firstM_good h
  rw [h4] at hn ⊢
  simp only at hn
  have hl : (t.take n).length = min n t.length := List.length_take
  have hdl : (t.drop k).length = t.length - k := List.length_drop
  have hd : (t.take n).drop k = (t.drop k).take (n - k) := List.drop_take
  have e1 : num4 ((t.take n).drop k) = num4 (t.drop k) := by rw [hd, num4_take _ _ (by omega)]
  have e2 : ((t.take n).drop k).take 4 = (t.drop k).take 4 := by rw [hd, List.take_take, Nat.min_eq_left (by omega)]
  have e3 : ((t.take n).drop k).take (8 + num4 (t.drop k)) = (t.drop k).take (8 + num4 (t.drop k)) := by rw [hd, List.take_take, Nat.min_eq_left (by omega)]
  have e4 : num4 (((t.take n).drop k).drop 4) = num4 ((t.drop k).drop 4) := by
    rw [hd, List.drop_take, num4_take _ _ (by omega)]
  have e5 : ((t.take n).drop k).length = min (n - k) (t.drop k).length := by rw [hd, List.length_take]
  unfold firstM
  rw [if_neg (by omega), e1, e2, e3, e4, if_neg (by rw [e5]; omega), if_pos h3]
theorem firstM_short {t : Bytes} {k : Nat} (h : t.length < k + 8) : (firstM t k).2.2 ≠ 0 := by
  unfold firstM
  rw [if_pos h]; decide
theorem num4_appC (l u : Bytes) (h : 4 ≤ l.length) : num4 (l ++ u) = num4 l := by
  rw [← num4_take (l ++ u) 4 (Nat.le_refl _), List.take_append_of_le_length h, num4_take l 4 (Nat.le_refl _)]
/-- A frame that is whole stays, whatever comes behind. -/
theorem firstM_appC {t : Bytes} {k : Nat} (u : Bytes) (h : (firstM t k).2.2 = 0) : firstM (t ++ u) k = firstM t k := by
  obtain ⟨h1, h2, h3, h4⟩ := firstM_good h
  rw [h4]
  have hdl : (t.drop k).length = t.length - k := List.length_drop
  have hd : (t ++ u).drop k = t.drop k ++ u := List.drop_append_of_le_length (by omega)
  have e1 : num4 (t.drop k ++ u) = num4 (t.drop k) := num4_appC _ _ (by omega)
  have e2 : (t.drop k ++ u).take 4 = (t.drop k).take 4 := List.take_append_of_le_length (by omega)
  have e3 : (t.drop k ++ u).take (8 + num4 (t.drop k)) = (t.drop k).take (8 + num4 (t.drop k)) := List.take_append_of_le_length (by omega)
  have e4 : num4 ((t.drop k ++ u).drop 4) = num4 ((t.drop k).drop 4) := by
    rw [List.drop_append_of_le_length (by omega), num4_appC _ _ (by rw [List.length_drop]; omega)]
  unfold firstM
  rw [List.length_append, if_neg (by omega), hd, e1, e2, e3, e4, List.length_append, if_neg (by omega), if_pos h3]
theorem num4_be4C (n : Nat) (l : Bytes) (hn : n < 4294967296) : num4 (be4 n ++ l) = n := by
  rw [num4_appC _ _ (by simp [be4]), num4_be4 n hn]
theorem firstM_frameC (t p : Bytes) (hp : p.length ≤ 65536) : firstM (t ++ frameB p) t.length = (p, (t ++ frameB p).length, 0) := by
  have hfl := frameB_len p
  have hc := (crcN_eq [be4 p.length, p]).2
  have hb : (be4 p.length).length = 4 := rfl
  have hd : (t ++ frameB p).drop t.length = frameB p := List.drop_left
  have e1 : num4 (frameB p) = p.length := by unfold frameB; rw [List.append_assoc, num4_be4C _ _ (by omega)]
  have e2 : (frameB p).take 4 = be4 p.length := by unfold frameB; rw [List.append_assoc]; rfl
  have e4 : (frameB p).drop 4 = be4 (crcN [be4 p.length, p]) ++ p := by unfold frameB; rw [List.append_assoc]; rfl
  have e3 : ((frameB p).take (8 + p.length)).drop 8 = p := by
    rw [List.take_of_length_le (by omega)]; rfl
  unfold firstM
  rw [if_neg (by rw [List.length_append]; omega), hd, e1, if_neg (by omega), e2, e3, e4, num4_be4C _ _ hc, if_pos rfl, List.length_append, hfl]
  simp only [Prod.mk.injEq, true_and, and_true]; omega
end Go.Proofs.YthpmmfapolcaiaaDoor

/- Plain: a text that is one frame. -/
namespace Go.Proofs.YthpmmfapolcaiaaDoor
open Go Go.Eng Go.Proofs
/-- The payload, if the text is one frame. -/
def openS (t : Bytes) : Option Bytes := if (firstM t 0).2.2 = 0 ∧ (firstM t 0).2.1 = t.length then some (firstM t 0).1 else none
theorem openS_frame {p : Bytes} (hp : p.length ≤ 65536) : openS (frameB p) = some p := by
  have h := firstM_frameC [] p hp
  rw [List.nil_append] at h
  unfold openS
  rw [show firstM (frameB p) 0 = (p, (frameB p).length, 0) from h, if_pos ⟨rfl, rfl⟩]
theorem openS_iff {t p : Bytes} : openS t = some p ↔ t = frameB p ∧ p.length ≤ 65536 := by
  constructor
  · intro h
    unfold openS at h
    split at h
    · next hc =>
      obtain ⟨h1, h2, h3, h4⟩ := firstM_good hc.1
      rw [h4] at h hc
      simp only [Option.some.injEq] at h
      rw [List.drop_zero] at *
      have hn := hc.2
      simp only [Nat.zero_add] at hn
      have ht : t.take (8 + num4 t) = t := List.take_of_length_le (by omega)
      have hf := (frame_iff (l := t) (num4 t) rfl (by omega)).2 h3
      rw [h, ht] at hf
      refine ⟨hf.symm, ?_⟩
      have := congrArg List.length hf
      rw [frameB_len] at this
      omega
    · cases h
  · rintro ⟨rfl, h⟩; exact openS_frame h
theorem frameB_inj {p q : Bytes} (hp : p.length ≤ 65536) (hq : q.length ≤ 65536) (h : frameB p = frameB q) : p = q := by
  have h1 := openS_frame hp
  rw [h, openS_frame hq] at h1
  cases h1; rfl
/-- What is cut off ahead of its end is no frame. -/
theorem openS_cut {p : Bytes} (hp : p.length ≤ 65536) {n : Nat} (hn : n < (frameB p).length) : openS ((frameB p).take n) = none := by
  cases h : openS ((frameB p).take n) with
  | none => rfl
  | some q =>
    exfalso
    obtain ⟨h1, h2⟩ := openS_iff.1 h
    have h3 := congrArg List.length h1
    rw [frameB_len] at h3
    have h4 : (firstM ((frameB p).take n) 0).2.2 = 0 ∧ (firstM ((frameB p).take n) 0).2.1 = ((frameB p).take n).length := by
      unfold openS at h
      split at h
      · next hc => exact hc
      · cases h
    have h5 := firstM_appC ((frameB p).drop n) h4.1
    rw [List.take_append_drop] at h5
    have h6 := firstM_frameC [] p hp
    rw [List.nil_append] at h6
    rw [← h5, show firstM (frameB p) 0 = (p, (frameB p).length, 0) from h6, List.length_take] at h4
    simp only at h4
    omega
theorem openS_more {p : Bytes} (hp : p.length ≤ 65536) {u : Bytes} (hu : u ≠ []) : openS (frameB p ++ u) = none := by
  have h6 := firstM_frameC [] p hp
  rw [List.nil_append] at h6
  have h6 : firstM (frameB p) 0 = (p, (frameB p).length, 0) := h6
  have h5 := firstM_appC (t := frameB p) (k := 0) u (by rw [h6])
  unfold openS
  rw [h5, h6, if_neg]
  rintro ⟨-, h⟩
  rw [List.length_append] at h
  have := List.length_pos_iff.2 hu
  simp only at h
  omega
end Go.Proofs.YthpmmfapolcaiaaDoor

/- Loads from slices that are read. -/
namespace Go.Eng
open Go
/-- Several cells of a slice that is read. -/
theorem Arr.ldn {w0 w : World} {T : List Nat} {H : Heap} (hS : St w0 T H w) {a : Option Addr} {xs : List Value} (ha : Arr w0 T a xs) {b off n : Nat} (hb : a = some ⟨b, off, none⟩) {k : Nat} {l' : List Value} (hl : (xs.drop k).take n = l') (hn : l'.length = n) {K : List Value → Prop} (hk : K l') :
    LdN (fun w' => w = w') n b (off + k) K := by
  subst hl
  refine ⟨⟨_, hn, fun _ e j v hv => ?_, hk⟩⟩
  subst e
  have hv2 : xs[k + j]? = some v := by
    rw [List.getElem?_take] at hv
    split at hv
    · rw [List.getElem?_drop] at hv; exact hv
    · cases hv
  obtain ⟨b', off', h1, h2, h3⟩ := ha (k + j) v hv2
  rw [hb] at h1
  simp only [Option.some.injEq, Addr.mk.injEq, and_true] at h1
  obtain ⟨rfl, rfl⟩ := h1
  have := hS.oldCell (a := ⟨b, off + (k + j), none⟩) h2 h3
  rw [Nat.add_assoc]; exact this
theorem Arr.dropS {w : World} {T : List Nat} {g off cap k sz : Nat} {xs ys : List Value} (h : Arr w T (some ⟨g, off, none⟩) (xs ++ ys)) (hx : xs.length = k * sz) (hc : ys ≠ [] → k < cap) : Arr w T (subA g off k cap sz) ys := by
  unfold subA
  split
  · next hk =>
    have : ys = [] := by
      cases ys with
      | nil => rfl
      | cons y ys => have := hc (by simp); omega
    subst this; exact Arr.nil _ _ _
  · intro j x hj
    obtain ⟨b, o, h1, h2, h3⟩ := h (xs.length + j) x (by rw [List.getElem?_append_right (by omega), show xs.length + j - xs.length = j by omega]; exact hj)
    simp at h1
    obtain ⟨rfl, rfl⟩ := h1
    exact ⟨g, off + k * sz, rfl, h2, by rw [← hx, show off + xs.length + j = off + (xs.length + j) by omega]; exact h3⟩
/-- A cell of a slice that is read. -/
theorem Arr.ldc {w0 w : World} {T : List Nat} {H : Heap} (hS : St w0 T H w) {g off i j : Nat} {xs : List Value} (ha : Arr w0 T (some ⟨g, off, none⟩) xs) {v : Value} (hx : xs[j]? = some v) (hi : i = off + j) {K : Value → Prop} (hk : K v) : LdC (fun w' => w = w') ⟨g, i, none⟩ K := by
  obtain ⟨b', off', h1, h2, h3⟩ := ha j v hx
  simp only [Option.some.injEq, Addr.mk.injEq, and_true] at h1
  obtain ⟨rfl, rfl⟩ := h1
  rw [hi]
  exact hS.ldOld h2 h3 hk
/-- The same in every world that meets St. -/
theorem Arr.ldcC {w0 : World} {T : List Nat} {H : Heap} {g off i j : Nat} {xs : List Value} (ha : Arr w0 T (some ⟨g, off, none⟩) xs) {v : Value} (hx : xs[j]? = some v) (hi : i = off + j) {K : Value → Prop} (hk : K v) : LdC (fun w' => St w0 T H w') ⟨g, i, none⟩ K := by
  obtain ⟨b', off', h1, h2, h3⟩ := ha j v hx
  simp only [Option.some.injEq, Addr.mk.injEq, and_true] at h1
  obtain ⟨rfl, rfl⟩ := h1
  rw [hi]
  exact ⟨⟨v, fun _ h' => h'.oldCell (a := ⟨g, off + j, none⟩) h2 h3, hk⟩⟩
/-- Several cells, in every world that meets St. -/
theorem Arr.ldnC {w0 : World} {T : List Nat} {H : Heap} {g off i n k : Nat} {xs l' : List Value} (ha : Arr w0 T (some ⟨g, off, none⟩) xs) (hl : (xs.drop k).take n = l') (hn : l'.length = n) (hi : i = off + k) {K : List Value → Prop} (hk : K l') :
    LdN (fun w' => St w0 T H w') n g i K := by
  subst hl
  refine ⟨⟨_, hn, fun _ h' j v hv => ?_, hk⟩⟩
  have hv2 : xs[k + j]? = some v := by
    rw [List.getElem?_take] at hv
    split at hv
    · rw [List.getElem?_drop] at hv; exact hv
    · cases hv
  obtain ⟨b', off', h1, h2, h3⟩ := ha (k + j) v hv2
  simp only [Option.some.injEq, Addr.mk.injEq, and_true] at h1
  obtain ⟨rfl, rfl⟩ := h1
  have := h'.oldCell (a := ⟨g, off + (k + j), none⟩) h2 h3
  rw [hi, Nat.add_assoc]; exact this
end Go.Eng

/- tarmacref23's small ones: in.num, in.int, payload, ints, bit, one. -/
namespace Go.Proofs.YthpmmfapolcaiaaDoor
open Go Go.Eng Go.Proofs
def eN (b : Bool) : Int := if b then 1 else 0
theorem numO_e (t : Bytes) : (numO t).2.1 = 0 ∨ (numO t).2.1 = 1 := by
  unfold numO; split <;> simp
theorem intO_e (t : Bytes) : (intO t).2.1 = 0 ∨ (intO t).2.1 = 1 := by
  unfold intO
  exact numO_e t
abbrev inC (rb : Nat) (bad : Bool) : Obj := .cells ⟨[ptr rb, .int .i64 (eN bad)]⟩ T_tarmacref23_in (0, 0)
abbrev inH (xb rb : Nat) (s : RB) : Heap := [(xb, inC rb s.bad), (rb, rdC' s.t)]
theorem eN_max (b : Bool) (e : Int) (he : e = 0 ∨ e = 1) : mxI (eN b) e = eN (b || decide (e ≠ 0)) := by
  unfold mxI eN
  rcases he with rfl | rfl <;> cases b <;> simp
theorem eN_max' (b : Bool) (e : Int) (he : e = 0 ∨ e = 1) : (if eN b < e then e else eN b) = eN (b || decide (e ≠ 0)) := eN_max b e he
theorem in_num {w : World} {xb rb : Nat} {s : RB} (hh : Holds (inH xb rb s) w) (ht : s.t.length ≤ 70368744177664) :
    Cl Tryd.prog f_tarmacref23_in_num [ptr xb] w fun v w' => v = .int .u64 (rbNum s).1 ∧ St w [xb, rb] (inH xb rb (rbNum s).2) w' := by
  have hS : St w [xb, rb] (inH xb rb s) w := St.enter hh
  have he := numO_e s.t
  unfold rbNum
  refine en_tarmacref23_in_num rfl ?_
  repeat (first | refine SemW.run tblOk ?_ | refine jA (by omega) ?_ | refine jB (by omega) ?_ | refine jC (by omega) ?_ | refine jD (by omega) ?_ | refine jE rfl ?_ | refine jF (by omega) ?_ | (refine jG ?_; first | with_reducible (first | refine jH ?_ | refine jI ?_ | refine jJ ?_ | refine jK ?_ | refine jL ?_) | refine jM (by omega) ?_ | refine jN (by omega) ?_ | with_reducible refine jM rfl ?_ | refine jM (by assumption) ?_ | refine jN (by assumption) ?_ | refine jM (by decide) ?_ | refine jN (by decide) ?_) | refine jF (ptr_ok tblOk rfl rfl) ?_ | refine jO (fun _ => by kernel_rfl) ?_ | refine jF (by decide) ?_ | refine hS.ld rfl ?_ | refine hS.ldn rfl ?_ | (refine hS.st rfl rfl ?_; intro _ hS))
  refine Cl.mono (RNumE_spec (t := s.t) (hS.part (L := [(rb, rdC' s.t)])) ht) ?_
  rintro _ w1 ⟨rfl, hS'⟩
  have hS := hS.call (L := [(rb, rdC' s.t)]) hS'
  simp only
  generalize numO s.t = y at hS he ⊢
  obtain ⟨n, e, t'⟩ := y
  simp only at hS he ⊢
  repeat (first | refine SemW.run tblOk ?_ | refine jA (by omega) ?_ | refine jB (by omega) ?_ | refine jC (by omega) ?_ | refine jD (by omega) ?_ | refine jE rfl ?_ | refine jF (by omega) ?_ | (refine jG ?_; first | with_reducible (first | refine jH ?_ | refine jI ?_ | refine jJ ?_ | refine jK ?_ | refine jL ?_) | refine jM (by omega) ?_ | refine jN (by omega) ?_ | with_reducible refine jM rfl ?_ | refine jM (by assumption) ?_ | refine jN (by assumption) ?_ | refine jM (by decide) ?_ | refine jN (by decide) ?_) | refine jF (ptr_ok tblOk rfl rfl) ?_ | refine jO (fun _ => by kernel_rfl) ?_ | refine jF (by decide) ?_ | refine hS.ld rfl ?_ | refine hS.ldn rfl ?_ | (refine hS.st rfl rfl ?_; intro _ hS))
  rw [eN_max' s.bad e he] at hS
  exact ⟨rfl, hS⟩
theorem in_int {w : World} {xb rb : Nat} {s : RB} (hh : Holds (inH xb rb s) w) (ht : s.t.length ≤ 70368744177664) :
    Cl Tryd.prog f_tarmacref23_in_int [ptr xb] w fun v w' => v = .int .i64 (rbInt s).1 ∧ St w [xb, rb] (inH xb rb (rbInt s).2) w' := by
  have hS : St w [xb, rb] (inH xb rb s) w := St.enter hh
  have he := intO_e s.t
  unfold rbInt
  refine en_tarmacref23_in_int rfl ?_
  repeat (first | refine SemW.run tblOk ?_ | refine jA (by omega) ?_ | refine jB (by omega) ?_ | refine jC (by omega) ?_ | refine jD (by omega) ?_ | refine jE rfl ?_ | refine jF (by omega) ?_ | (refine jG ?_; first | with_reducible (first | refine jH ?_ | refine jI ?_ | refine jJ ?_ | refine jK ?_ | refine jL ?_) | refine jM (by omega) ?_ | refine jN (by omega) ?_ | with_reducible refine jM rfl ?_ | refine jM (by assumption) ?_ | refine jN (by assumption) ?_ | refine jM (by decide) ?_ | refine jN (by decide) ?_) | refine jF (ptr_ok tblOk rfl rfl) ?_ | refine jO (fun _ => by kernel_rfl) ?_ | refine jF (by decide) ?_ | refine hS.ld rfl ?_ | refine hS.ldn rfl ?_ | (refine hS.st rfl rfl ?_; intro _ hS))
  refine Cl.mono (RIntE_spec (t := s.t) (hS.part (L := [(rb, rdC' s.t)])) ht) ?_
  rintro _ w1 ⟨rfl, hS'⟩
  have hS := hS.call (L := [(rb, rdC' s.t)]) hS'
  simp only
  generalize intO s.t = y at hS he ⊢
  obtain ⟨n, e, t'⟩ := y
  simp only at hS he ⊢
  repeat (first | refine SemW.run tblOk ?_ | refine jA (by omega) ?_ | refine jB (by omega) ?_ | refine jC (by omega) ?_ | refine jD (by omega) ?_ | refine jE rfl ?_ | refine jF (by omega) ?_ | (refine jG ?_; first | with_reducible (first | refine jH ?_ | refine jI ?_ | refine jJ ?_ | refine jK ?_ | refine jL ?_) | refine jM (by omega) ?_ | refine jN (by omega) ?_ | with_reducible refine jM rfl ?_ | refine jM (by assumption) ?_ | refine jN (by assumption) ?_ | refine jM (by decide) ?_ | refine jN (by decide) ?_) | refine jF (ptr_ok tblOk rfl rfl) ?_ | refine jO (fun _ => by kernel_rfl) ?_ | refine jF (by decide) ?_ | refine hS.ld rfl ?_ | refine hS.ldn rfl ?_ | (refine hS.st rfl rfl ?_; intro _ hS))
  rw [eN_max' s.bad e he] at hS
  exact ⟨rfl, hS⟩
def PayPost (o : Option Bytes) (v : Value) (w w' : World) : Prop := match o with
  | none => v = .tuple ⟨[.pointer none, .int .i64 34]⟩ ∧ St w [] [] w'
  | some p => ∃ xb rb, v = .tuple ⟨[ptr xb, .int .i64 0]⟩ ∧ St w [] (inH xb rb ⟨p, false⟩) w'
theorem firstM_e (t : Bytes) (k : Nat) : (firstM t k).2.2 = 0 ∨ (firstM t k).2.2 = 1 := by
  unfold firstM
  split
  · exact .inr rfl
  · split
    · exact .inr rfl
    · split
      · exact .inl rfl
      · exact .inr rfl
theorem payload_spec {w : World} {t : Bytes} (ht : t.length ≤ 1000000000) : Cl Tryd.prog f_tarmacref23_payload [Str t] w fun v w' => PayPost (openS t) v w w' := by
  have hS := St.start w
  have he := firstM_e t 0
  refine en_tarmacref23_payload rfl ?_
  repeat (first | refine SemW.run tblOk ?_ | refine jA (by omega) ?_ | refine jB (by omega) ?_ | refine jC (by omega) ?_ | refine jD (by omega) ?_ | refine jE rfl ?_ | refine jF (by omega) ?_ | (refine jG ?_; first | with_reducible (first | refine jH ?_ | refine jI ?_ | refine jJ ?_ | refine jK ?_ | refine jL ?_) | refine jM (by omega) ?_ | refine jN (by omega) ?_ | with_reducible refine jM rfl ?_ | refine jM (by assumption) ?_ | refine jN (by assumption) ?_ | refine jM (by decide) ?_ | refine jN (by decide) ?_) | refine jF (ptr_ok tblOk rfl rfl) ?_ | refine jO (fun _ => by kernel_rfl) ?_ | refine jF (by decide) ?_)
  refine Cl.mono (First02_spec t 0 ht (Nat.zero_le _)) ?_
  rintro _ w1 ⟨rfl, hS'⟩
  have hS := hS.call0 hS'
  unfold openS
  generalize firstM t 0 = x at hS he ⊢
  obtain ⟨p, e, er⟩ := x
  simp only at he ⊢
  rcases he with rfl | rfl
  · by_cases hl : e = t.length
    · rw [if_pos ⟨rfl, hl⟩]
      repeat (first | refine SemW.run tblOk ?_ | refine jA (by omega) ?_ | refine jB (by omega) ?_ | refine jC (by omega) ?_ | refine jD (by omega) ?_ | refine jE rfl ?_ | refine jF (by omega) ?_ | (refine jG ?_; first | with_reducible (first | refine jH ?_ | refine jI ?_ | refine jJ ?_ | refine jK ?_ | refine jL ?_) | refine jM (by omega) ?_ | refine jN (by omega) ?_ | with_reducible refine jM rfl ?_ | refine jM (by assumption) ?_ | refine jN (by assumption) ?_ | refine jM (by decide) ?_ | refine jN (by decide) ?_) | refine jF (ptr_ok tblOk rfl rfl) ?_ | refine jO (fun _ => by kernel_rfl) ?_ | refine jF (by decide) ?_)
      refine hS.al ?_
      intro rb w2 _ hS
      repeat (first | refine SemW.run tblOk ?_ | refine jA (by omega) ?_ | refine jB (by omega) ?_ | refine jC (by omega) ?_ | refine jD (by omega) ?_ | refine jE rfl ?_ | refine jF (by omega) ?_ | (refine jG ?_; first | with_reducible (first | refine jH ?_ | refine jI ?_ | refine jJ ?_ | refine jK ?_ | refine jL ?_) | refine jM (by omega) ?_ | refine jN (by omega) ?_ | with_reducible refine jM rfl ?_ | refine jM (by assumption) ?_ | refine jN (by assumption) ?_ | refine jM (by decide) ?_ | refine jN (by decide) ?_) | refine jF (ptr_ok tblOk rfl rfl) ?_ | refine jO (fun _ => by kernel_rfl) ?_ | refine jF (by decide) ?_)
      refine hS.al ?_
      intro xb w3 _ hS
      repeat (first | refine SemW.run tblOk ?_ | refine jA (by omega) ?_ | refine jB (by omega) ?_ | refine jC (by omega) ?_ | refine jD (by omega) ?_ | refine jE rfl ?_ | refine jF (by omega) ?_ | (refine jG ?_; first | with_reducible (first | refine jH ?_ | refine jI ?_ | refine jJ ?_ | refine jK ?_ | refine jL ?_) | refine jM (by omega) ?_ | refine jN (by omega) ?_ | with_reducible refine jM rfl ?_ | refine jM (by assumption) ?_ | refine jN (by assumption) ?_ | refine jM (by decide) ?_ | refine jN (by decide) ?_) | refine jF (ptr_ok tblOk rfl rfl) ?_ | refine jO (fun _ => by kernel_rfl) ?_ | refine jF (by decide) ?_)
      exact ⟨xb, rb, rfl, hS⟩
    · rw [if_neg (fun h => hl h.2)]
      repeat (first | refine SemW.run tblOk ?_ | refine jA (by omega) ?_ | refine jB (by omega) ?_ | refine jC (by omega) ?_ | refine jD (by omega) ?_ | refine jE rfl ?_ | refine jF (by omega) ?_ | (refine jG ?_; first | with_reducible (first | refine jH ?_ | refine jI ?_ | refine jJ ?_ | refine jK ?_ | refine jL ?_) | refine jM (by omega) ?_ | refine jN (by omega) ?_ | with_reducible refine jM rfl ?_ | refine jM (by assumption) ?_ | refine jN (by assumption) ?_ | refine jM (by decide) ?_ | refine jN (by decide) ?_) | refine jF (ptr_ok tblOk rfl rfl) ?_ | refine jO (fun _ => by kernel_rfl) ?_ | refine jF (by decide) ?_)
      exact ⟨rfl, hS⟩
  · rw [if_neg (by rintro ⟨h, -⟩; cases h)]
    repeat (first | refine SemW.run tblOk ?_ | refine jA (by omega) ?_ | refine jB (by omega) ?_ | refine jC (by omega) ?_ | refine jD (by omega) ?_ | refine jE rfl ?_ | refine jF (by omega) ?_ | (refine jG ?_; first | with_reducible (first | refine jH ?_ | refine jI ?_ | refine jJ ?_ | refine jK ?_ | refine jL ?_) | refine jM (by omega) ?_ | refine jN (by omega) ?_ | with_reducible refine jM rfl ?_ | refine jM (by assumption) ?_ | refine jN (by assumption) ?_ | refine jM (by decide) ?_ | refine jN (by decide) ?_) | refine jF (ptr_ok tblOk rfl rfl) ?_ | refine jO (fun _ => by kernel_rfl) ?_ | refine jF (by decide) ?_)
    exact ⟨rfl, hS⟩
theorem intB_ten (z : Int) (hz : i64ok z) : (intB z).length ≤ 10 := numB_len10 _ (zig_eq z hz.1 hz.2).2
theorem intsB_ten (l : List Int) (h : ∀ z ∈ l, i64ok z) : (intsB l).length ≤ 10 * l.length := by
  induction l with
  | nil => simp [intsB]
  | cons z l ih =>
    have h1 := intB_ten z (h z List.mem_cons_self)
    have h2 := ih fun y hy => h y (List.mem_cons_of_mem _ hy)
    have e : intsB (z :: l) = intB z ++ intsB l := rfl
    rw [e, List.length_append, List.length_cons]
    omega
structure RI3 where
  k : Nat
  out : Bytes
  a : Option Addr
  c : Nat
set_option maxHeartbeats 2000000 in
theorem ints_spec {w : World} {a : Option Addr} {cap : Nat} {l : List Int} (ha : Arr w [] a (l.map intV)) (hok : ∀ z ∈ l, i64ok z) (hl : l.length ≤ 16777216) :
    Cl Tryd.prog f_tarmacref23_ints [.slice a l.length cap] w fun v w' => v = Str (intsB l) ∧ St w [] [] w' := by
  have hS := St.start w
  refine en_tarmacref23_ints rfl ?_
  repeat (first | refine SemW.run tblOk ?_ | refine jA (by omega) ?_ | refine jB (by omega) ?_ | refine jC (by omega) ?_ | refine jD (by omega) ?_ | refine jE rfl ?_ | refine jF (by omega) ?_ | (refine jG ?_; first | with_reducible (first | refine jH ?_ | refine jI ?_ | refine jJ ?_ | refine jK ?_ | refine jL ?_) | refine jM (by omega) ?_ | refine jN (by omega) ?_ | with_reducible refine jM rfl ?_ | refine jM (by assumption) ?_ | refine jN (by assumption) ?_ | refine jM (by decide) ?_ | refine jN (by decide) ?_) | refine jF (ptr_ok tblOk rfl rfl) ?_ | refine jO (fun _ => by kernel_rfl) ?_ | refine jF (by decide) ?_)
  refine SemW.loop (fun x : RI3 => [(3, .slice x.a x.out.length x.c), (6, .slice a l.length cap), (7, .int .i64 l.length), (8, .int .i64 x.k)])
    (fun x w' => x.k ≤ l.length ∧ x.out = intsB (l.take x.k) ∧ ∃ L, VecO T_uint8 x.a x.out.length x.c (x.out.map byteV) L ∧ St w [] L w') (fun x => l.length - x.k) ⟨0, [], none, 0⟩
    ⟨rfl, rfl, rfl, rfl, trivial⟩ ⟨Nat.zero_le _, by simp [intsB], [], VecO.nil, hS⟩ ?_
  clear hS
  rintro ⟨k, out, a1, c1⟩ w3 ⟨hk, hout, L1, hv, hSk⟩
  simp only at hk hout hv hSk ⊢
  have htk := intsB_ten (l.take k) fun z hz => hok z (List.mem_of_mem_take hz)
  rw [← hout, List.length_take] at htk
  by_cases hkl : k < l.length
  · obtain ⟨g, off, rfl, -, -⟩ := ha.get (j := k) (by rw [List.length_map]; exact hkl)
    have hS := hSk
    have hxk : (l.map intV)[k]? = some (intV l[k]) := by simp [hkl]
    have hz := hok l[k] (List.getElem_mem hkl)
    have hsr := List.take_succ_eq_append_getElem hkl
    generalize l[k] = z at hxk hz hsr
    have hi := intB_ten z hz
    repeat (first | refine SemW.run tblOk ?_ | refine jA (by omega) ?_ | refine jB (by omega) ?_ | refine jC (by omega) ?_ | refine jD (by omega) ?_ | refine jE rfl ?_ | refine jF (by omega) ?_ | (refine jG ?_; first | with_reducible (first | refine jH ?_ | refine jI ?_ | refine jJ ?_ | refine jK ?_ | refine jL ?_) | refine jM (by omega) ?_ | refine jN (by omega) ?_ | with_reducible refine jM rfl ?_ | refine jM (by assumption) ?_ | refine jN (by assumption) ?_ | refine jM (by decide) ?_ | refine jN (by decide) ?_) | refine jF (ptr_ok tblOk rfl rfl) ?_ | refine jO (fun _ => by kernel_rfl) ?_ | refine jF (by decide) ?_ | refine hS.ld rfl ?_ | refine hS.ldn rfl ?_ | (refine hS.st rfl rfl ?_; intro _ hS))
    refine Arr.ldc hS.nil ha hxk (by omega) ?_
    repeat (first | refine SemW.run tblOk ?_ | refine jA (by omega) ?_ | refine jB (by omega) ?_ | refine jC (by omega) ?_ | refine jD (by omega) ?_ | refine jE rfl ?_ | refine jF (by omega) ?_ | (refine jG ?_; first | with_reducible (first | refine jH ?_ | refine jI ?_ | refine jJ ?_ | refine jK ?_ | refine jL ?_) | refine jM (by omega) ?_ | refine jN (by omega) ?_ | with_reducible refine jM rfl ?_ | refine jM (by assumption) ?_ | refine jN (by assumption) ?_ | refine jM (by decide) ?_ | refine jN (by decide) ?_) | refine jF (ptr_ok tblOk rfl rfl) ?_ | refine jO (fun _ => by kernel_rfl) ?_ | refine jF (by decide) ?_ | refine hS.ld rfl ?_ | refine hS.ldn rfl ?_ | (refine hS.st rfl rfl ?_; intro _ hS))
    refine Cl.mono (IntE_spec z hz) ?_
    rintro _ w5 ⟨rfl, hS'⟩
    have hS := hS.call0 hS'
    repeat (first | refine SemW.run tblOk ?_ | refine jA (by omega) ?_ | refine jB (by omega) ?_ | refine jC (by omega) ?_ | refine jD (by omega) ?_ | refine jE rfl ?_ | refine jF (by omega) ?_ | (refine jG ?_; first | with_reducible (first | refine jH ?_ | refine jI ?_ | refine jJ ?_ | refine jK ?_ | refine jL ?_) | refine jM (by omega) ?_ | refine jN (by omega) ?_ | with_reducible refine jM rfl ?_ | refine jM (by assumption) ?_ | refine jN (by assumption) ?_ | refine jM (by decide) ?_ | refine jN (by decide) ?_) | refine jF (ptr_ok tblOk rfl rfl) ?_ | refine jO (fun _ => by kernel_rfl) ?_ | refine jF (by decide) ?_ | refine hS.ld rfl ?_ | refine hS.ldn rfl ?_ | (refine hS.st rfl rfl ?_; intro _ hS))
    refine St.appOStr tblOk rfl rfl rfl rfl rfl rfl hS hv (s := intB z) (by show (_ + _) * 1 ≤ _; (try simp only [List.length_append, List.length_nil]); omega) (by (try simp only [List.length_append, List.length_nil]); omega) ?_
    intro a2 c2 L2 w6 hv hS
    rw [← List.map_append, ← List.length_append] at hv
    rw [← List.length_append]
    repeat (first | refine SemW.run tblOk ?_ | refine jA (by omega) ?_ | refine jB (by omega) ?_ | refine jC (by omega) ?_ | refine jD (by omega) ?_ | refine jE rfl ?_ | refine jF (by omega) ?_ | (refine jG ?_; first | with_reducible (first | refine jH ?_ | refine jI ?_ | refine jJ ?_ | refine jK ?_ | refine jL ?_) | refine jM (by omega) ?_ | refine jN (by omega) ?_ | with_reducible refine jM rfl ?_ | refine jM (by assumption) ?_ | refine jN (by assumption) ?_ | refine jM (by decide) ?_ | refine jN (by decide) ?_) | refine jF (ptr_ok tblOk rfl rfl) ?_ | refine jO (fun _ => by kernel_rfl) ?_ | refine jF (by decide) ?_ | refine hS.ld rfl ?_ | refine hS.ldn rfl ?_ | (refine hS.st rfl rfl ?_; intro _ hS))
    refine ⟨⟨k + 1, _, _, _⟩, ⟨rfl, rfl, rfl, rfl, trivial⟩, ⟨by simp only; omega, ?_, _, hv, hS⟩, by simp only; omega⟩
    simp only
    rw [hsr, hout]
    simp [intsB]
  · have hke : k = l.length := by omega
    have hS := hSk
    subst hke
    rw [List.take_length] at hout
    repeat (first | refine SemW.run tblOk ?_ | refine jA (by omega) ?_ | refine jB (by omega) ?_ | refine jC (by omega) ?_ | refine jD (by omega) ?_ | refine jE rfl ?_ | refine jF (by omega) ?_ | (refine jG ?_; first | with_reducible (first | refine jH ?_ | refine jI ?_ | refine jJ ?_ | refine jK ?_ | refine jL ?_) | refine jM (by omega) ?_ | refine jN (by omega) ?_ | with_reducible refine jM rfl ?_ | refine jM (by assumption) ?_ | refine jN (by assumption) ?_ | refine jM (by decide) ?_ | refine jN (by decide) ?_) | refine jF (ptr_ok tblOk rfl rfl) ?_ | refine jO (fun _ => by kernel_rfl) ?_ | refine jF (by decide) ?_)
    refine toStr (T := []) tblOk rfl rfl rfl rfl rfl rfl (bs := out) rfl (fun w' hw' => by subst hw'; exact hv.arr hS (by simp)) ?_
    repeat (first | refine SemW.run tblOk ?_ | refine jA (by omega) ?_ | refine jB (by omega) ?_ | refine jC (by omega) ?_ | refine jD (by omega) ?_ | refine jE rfl ?_ | refine jF (by omega) ?_ | (refine jG ?_; first | with_reducible (first | refine jH ?_ | refine jI ?_ | refine jJ ?_ | refine jK ?_ | refine jL ?_) | refine jM (by omega) ?_ | refine jN (by omega) ?_ | with_reducible refine jM rfl ?_ | refine jM (by assumption) ?_ | refine jN (by assumption) ?_ | refine jM (by decide) ?_ | refine jN (by decide) ?_) | refine jF (ptr_ok tblOk rfl rfl) ?_ | refine jO (fun _ => by kernel_rfl) ?_ | refine jF (by decide) ?_)
    exact ⟨by rw [hout], hS.nil⟩
set_option maxHeartbeats 2000000 in
theorem seal_one {w : World} {a : Option Addr} {p : Bytes} (ha : Arr w [] a ([p].map Str)) :
    Cl Tryd.prog f_tarmacref02_Seal [.slice a 1 1] w fun v w' => (v = if p.length ≤ 65536 then .tuple ⟨[Str (frameB p), .int .i64 0]⟩ else .tuple ⟨[Str [], .int .i64 2]⟩) ∧ St w [] [] w' := by
  have hS := St.start w
  obtain ⟨g, off, rfl, -, -⟩ := ha.get (j := 0) (by simp)
  refine en_tarmacref02_Seal rfl ?_
  repeat (first | refine SemW.run tblOk ?_ | refine jA (by omega) ?_ | refine jB (by omega) ?_ | refine jC (by omega) ?_ | refine jD (by omega) ?_ | refine jE rfl ?_ | refine jF (by omega) ?_ | (refine jG ?_; first | with_reducible (first | refine jH ?_ | refine jI ?_ | refine jJ ?_ | refine jK ?_ | refine jL ?_) | refine jM (by omega) ?_ | refine jN (by omega) ?_ | with_reducible refine jM rfl ?_ | refine jM (by assumption) ?_ | refine jN (by assumption) ?_ | refine jM (by decide) ?_ | refine jN (by decide) ?_) | refine jF (ptr_ok tblOk rfl rfl) ?_ | refine jO (fun _ => by kernel_rfl) ?_ | refine jF (by decide) ?_)
  refine SemW.loop (fun x : RI3 => [(4, .slice x.a x.out.length x.c), (7, .slice (some ⟨g, off, none⟩) 1 1), (8, .int .i64 1), (9, .int .i64 x.k)])
    (fun x w' => ((x.k = 0 ∧ x.out = []) ∨ (x.k = 1 ∧ p.length ≤ 65536 ∧ x.out = frameB p)) ∧ ∃ L, VecO T_uint8 x.a x.out.length x.c (x.out.map byteV) L ∧ St w [] L w') (fun x => 1 - x.k) ⟨0, [], none, 0⟩
    ⟨rfl, rfl, rfl, rfl, trivial⟩ ⟨.inl ⟨rfl, rfl⟩, [], VecO.nil, hS⟩ ?_
  clear hS
  rintro ⟨k, out, a1, c1⟩ w3 ⟨hk, L1, hv, hS⟩
  simp only at hk hv hS ⊢
  rcases hk with ⟨rfl, rfl⟩ | ⟨rfl, hp, rfl⟩
  · repeat (first | refine SemW.run tblOk ?_ | refine jA (by omega) ?_ | refine jB (by omega) ?_ | refine jC (by omega) ?_ | refine jD (by omega) ?_ | refine jE rfl ?_ | refine jF (by omega) ?_ | (refine jG ?_; first | with_reducible (first | refine jH ?_ | refine jI ?_ | refine jJ ?_ | refine jK ?_ | refine jL ?_) | refine jM (by omega) ?_ | refine jN (by omega) ?_ | with_reducible refine jM rfl ?_ | refine jM (by assumption) ?_ | refine jN (by assumption) ?_ | refine jM (by decide) ?_ | refine jN (by decide) ?_) | refine jF (ptr_ok tblOk rfl rfl) ?_ | refine jO (fun _ => by kernel_rfl) ?_ | refine jF (by decide) ?_ | refine hS.ld rfl ?_ | refine hS.ldn rfl ?_ | (refine hS.st rfl rfl ?_; intro _ hS))
    refine Arr.ldc hS.nil ha (j := 0) (by rfl) (by omega) ?_
    by_cases hp : p.length ≤ 65536
    · have hfl := frameB_len p
      repeat (first | refine SemW.run tblOk ?_ | refine jA (by omega) ?_ | refine jB (by omega) ?_ | refine jC (by omega) ?_ | refine jD (by omega) ?_ | refine jE rfl ?_ | refine jF (by omega) ?_ | (refine jG ?_; first | with_reducible (first | refine jH ?_ | refine jI ?_ | refine jJ ?_ | refine jK ?_ | refine jL ?_) | refine jM (by omega) ?_ | refine jN (by omega) ?_ | with_reducible refine jM rfl ?_ | refine jM (by assumption) ?_ | refine jN (by assumption) ?_ | refine jM (by decide) ?_ | refine jN (by decide) ?_) | refine jF (ptr_ok tblOk rfl rfl) ?_ | refine jO (fun _ => by kernel_rfl) ?_ | refine jF (by decide) ?_ | refine hS.ld rfl ?_ | refine hS.ldn rfl ?_ | (refine hS.st rfl rfl ?_; intro _ hS))
      refine Cl.mono (Frame02_spec p (by omega)) ?_
      rintro _ w5 ⟨rfl, hS'⟩
      have hS := hS.call0 hS'
      repeat (first | refine SemW.run tblOk ?_ | refine jA (by omega) ?_ | refine jB (by omega) ?_ | refine jC (by omega) ?_ | refine jD (by omega) ?_ | refine jE rfl ?_ | refine jF (by omega) ?_ | (refine jG ?_; first | with_reducible (first | refine jH ?_ | refine jI ?_ | refine jJ ?_ | refine jK ?_ | refine jL ?_) | refine jM (by omega) ?_ | refine jN (by omega) ?_ | with_reducible refine jM rfl ?_ | refine jM (by assumption) ?_ | refine jN (by assumption) ?_ | refine jM (by decide) ?_ | refine jN (by decide) ?_) | refine jF (ptr_ok tblOk rfl rfl) ?_ | refine jO (fun _ => by kernel_rfl) ?_ | refine jF (by decide) ?_ | refine hS.ld rfl ?_ | refine hS.ldn rfl ?_ | (refine hS.st rfl rfl ?_; intro _ hS))
      refine St.appOStr tblOk rfl rfl rfl rfl rfl rfl hS hv (s := frameB p) (by show (_ + _) * 1 ≤ _; (try simp only [List.length_append, List.length_nil]); omega) (by (try simp only [List.length_append, List.length_nil]); omega) ?_
      intro a2 c2 L2 w6 hv hS
      rw [← List.map_append, ← List.length_append] at hv
      rw [← List.length_append]
      repeat (first | refine SemW.run tblOk ?_ | refine jA (by omega) ?_ | refine jB (by omega) ?_ | refine jC (by omega) ?_ | refine jD (by omega) ?_ | refine jE rfl ?_ | refine jF (by omega) ?_ | (refine jG ?_; first | with_reducible (first | refine jH ?_ | refine jI ?_ | refine jJ ?_ | refine jK ?_ | refine jL ?_) | refine jM (by omega) ?_ | refine jN (by omega) ?_ | with_reducible refine jM rfl ?_ | refine jM (by assumption) ?_ | refine jN (by assumption) ?_ | refine jM (by decide) ?_ | refine jN (by decide) ?_) | refine jF (ptr_ok tblOk rfl rfl) ?_ | refine jO (fun _ => by kernel_rfl) ?_ | refine jF (by decide) ?_ | refine hS.ld rfl ?_ | refine hS.ldn rfl ?_ | (refine hS.st rfl rfl ?_; intro _ hS))
      exact ⟨⟨1, _, _, _⟩, ⟨rfl, rfl, rfl, rfl, trivial⟩, ⟨.inr ⟨rfl, hp, rfl⟩, _, hv, hS⟩, Nat.lt_succ_self 0⟩
    · repeat (first | refine SemW.run tblOk ?_ | refine jA (by omega) ?_ | refine jB (by omega) ?_ | refine jC (by omega) ?_ | refine jD (by omega) ?_ | refine jE rfl ?_ | refine jF (by omega) ?_ | (refine jG ?_; first | with_reducible (first | refine jH ?_ | refine jI ?_ | refine jJ ?_ | refine jK ?_ | refine jL ?_) | refine jM (by omega) ?_ | refine jN (by omega) ?_ | with_reducible refine jM rfl ?_ | refine jM (by assumption) ?_ | refine jN (by assumption) ?_ | refine jM (by decide) ?_ | refine jN (by decide) ?_) | refine jF (ptr_ok tblOk rfl rfl) ?_ | refine jO (fun _ => by kernel_rfl) ?_ | refine jF (by decide) ?_ | refine hS.ld rfl ?_ | refine hS.ldn rfl ?_ | (refine hS.st rfl rfl ?_; intro _ hS))
      rw [if_neg hp]
      exact ⟨rfl, hS.nil⟩
  · repeat (first | refine SemW.run tblOk ?_ | refine jA (by omega) ?_ | refine jB (by omega) ?_ | refine jC (by omega) ?_ | refine jD (by omega) ?_ | refine jE rfl ?_ | refine jF (by omega) ?_ | (refine jG ?_; first | with_reducible (first | refine jH ?_ | refine jI ?_ | refine jJ ?_ | refine jK ?_ | refine jL ?_) | refine jM (by omega) ?_ | refine jN (by omega) ?_ | with_reducible refine jM rfl ?_ | refine jM (by assumption) ?_ | refine jN (by assumption) ?_ | refine jM (by decide) ?_ | refine jN (by decide) ?_) | refine jF (ptr_ok tblOk rfl rfl) ?_ | refine jO (fun _ => by kernel_rfl) ?_ | refine jF (by decide) ?_ | refine hS.ld rfl ?_ | refine hS.ldn rfl ?_ | (refine hS.st rfl rfl ?_; intro _ hS))
    refine toStr (T := []) tblOk rfl rfl rfl rfl rfl rfl (bs := frameB p) rfl (fun w' hw' => by subst hw'; exact hv.arr hS (by simp)) ?_
    repeat (first | refine SemW.run tblOk ?_ | refine jA (by omega) ?_ | refine jB (by omega) ?_ | refine jC (by omega) ?_ | refine jD (by omega) ?_ | refine jE rfl ?_ | refine jF (by omega) ?_ | (refine jG ?_; first | with_reducible (first | refine jH ?_ | refine jI ?_ | refine jJ ?_ | refine jK ?_ | refine jL ?_) | refine jM (by omega) ?_ | refine jN (by omega) ?_ | with_reducible refine jM rfl ?_ | refine jM (by assumption) ?_ | refine jN (by assumption) ?_ | refine jM (by decide) ?_ | refine jN (by decide) ?_) | refine jF (ptr_ok tblOk rfl rfl) ?_ | refine jO (fun _ => by kernel_rfl) ?_ | refine jF (by decide) ?_)
    rw [if_pos hp]
    exact ⟨rfl, hS.nil⟩
theorem one_spec {w : World} {p : Bytes} :
    Cl Tryd.prog f_tarmacref23_one [Str p] w fun v w' => (v = if p.length ≤ 65536 then .tuple ⟨[Str (frameB p), .int .i64 0]⟩ else .tuple ⟨[Str [], .int .i64 34]⟩) ∧ St w [] [] w' := by
  have hS := St.start w
  refine en_tarmacref23_one rfl ?_
  repeat (first | refine SemW.run tblOk ?_ | refine jA (by omega) ?_ | refine jB (by omega) ?_ | refine jC (by omega) ?_ | refine jD (by omega) ?_ | refine jE rfl ?_ | refine jF (by omega) ?_ | (refine jG ?_; first | with_reducible (first | refine jH ?_ | refine jI ?_ | refine jJ ?_ | refine jK ?_ | refine jL ?_) | refine jM (by omega) ?_ | refine jN (by omega) ?_ | with_reducible refine jM rfl ?_ | refine jM (by assumption) ?_ | refine jN (by assumption) ?_ | refine jM (by decide) ?_ | refine jN (by decide) ?_) | refine jF (ptr_ok tblOk rfl rfl) ?_ | refine jO (fun _ => by kernel_rfl) ?_ | refine jF (by decide) ?_)
  refine hS.al ?_
  intro q w2 _ hS
  repeat (first | refine SemW.run tblOk ?_ | refine jA (by omega) ?_ | refine jB (by omega) ?_ | refine jC (by omega) ?_ | refine jD (by omega) ?_ | refine jE rfl ?_ | refine jF (by omega) ?_ | (refine jG ?_; first | with_reducible (first | refine jH ?_ | refine jI ?_ | refine jJ ?_ | refine jK ?_ | refine jL ?_) | refine jM (by omega) ?_ | refine jN (by omega) ?_ | with_reducible refine jM rfl ?_ | refine jM (by assumption) ?_ | refine jN (by assumption) ?_ | refine jM (by decide) ?_ | refine jN (by decide) ?_) | refine jF (ptr_ok tblOk rfl rfl) ?_ | refine jO (fun _ => by kernel_rfl) ?_ | refine jF (by decide) ?_)
  refine Cl.mono (seal_one (p := p) (hS.arr (b := q) (by simp))) ?_
  rintro _ w3 ⟨rfl, hS'⟩
  have hS := hS.call0 hS'
  by_cases hp : p.length ≤ 65536
  · rw [if_pos hp, if_pos hp]
    repeat (first | refine SemW.run tblOk ?_ | refine jA (by omega) ?_ | refine jB (by omega) ?_ | refine jC (by omega) ?_ | refine jD (by omega) ?_ | refine jE rfl ?_ | refine jF (by omega) ?_ | (refine jG ?_; first | with_reducible (first | refine jH ?_ | refine jI ?_ | refine jJ ?_ | refine jK ?_ | refine jL ?_) | refine jM (by omega) ?_ | refine jN (by omega) ?_ | with_reducible refine jM rfl ?_ | refine jM (by assumption) ?_ | refine jN (by assumption) ?_ | refine jM (by decide) ?_ | refine jN (by decide) ?_) | refine jF (ptr_ok tblOk rfl rfl) ?_ | refine jO (fun _ => by kernel_rfl) ?_ | refine jF (by decide) ?_)
    exact ⟨rfl, hS.nil⟩
  · rw [if_neg hp, if_neg hp]
    repeat (first | refine SemW.run tblOk ?_ | refine jA (by omega) ?_ | refine jB (by omega) ?_ | refine jC (by omega) ?_ | refine jD (by omega) ?_ | refine jE rfl ?_ | refine jF (by omega) ?_ | (refine jG ?_; first | with_reducible (first | refine jH ?_ | refine jI ?_ | refine jJ ?_ | refine jK ?_ | refine jL ?_) | refine jM (by omega) ?_ | refine jN (by omega) ?_ | with_reducible refine jM rfl ?_ | refine jM (by assumption) ?_ | refine jN (by assumption) ?_ | refine jM (by decide) ?_ | refine jN (by decide) ?_) | refine jF (ptr_ok tblOk rfl rfl) ?_ | refine jO (fun _ => by kernel_rfl) ?_ | refine jF (by decide) ?_)
    exact ⟨rfl, hS.nil⟩
end Go.Proofs.YthpmmfapolcaiaaDoor

/- The document's texts (tarmacref01). -/
namespace Go.Proofs.YthpmmfapolcaiaaDoor
open Go Go.Eng Go.Proofs
theorem TextE_spec {w : World} (s : Bytes) (hs : s.length ≤ 70368744177664) : Cl Tryd.prog f_tarmacref01_Text [Str s] w fun v w' => v = Str (textB s) ∧ St w [] [] w' := by
  have hS := St.start w
  have hl := numB_len10' s.length (by omega)
  refine en_tarmacref01_Text rfl ?_
  repeat (first | refine SemW.run tblOk ?_ | refine jA (by omega) ?_ | refine jB (by omega) ?_ | refine jC (by omega) ?_ | refine jD (by omega) ?_ | refine jE rfl ?_ | refine jF (by omega) ?_ | (refine jG ?_; first | with_reducible (first | refine jH ?_ | refine jI ?_ | refine jJ ?_ | refine jK ?_ | refine jL ?_) | refine jM (by omega) ?_ | refine jN (by omega) ?_ | with_reducible refine jM rfl ?_ | refine jM (by assumption) ?_ | refine jN (by assumption) ?_ | refine jM (by decide) ?_ | refine jN (by decide) ?_) | refine jF (ptr_ok tblOk rfl rfl) ?_ | refine jO (fun _ => by kernel_rfl) ?_ | refine jF (by decide) ?_)
  refine Cl.mono (NumE_spec s.length (by omega)) ?_
  rintro _ w1 ⟨rfl, hS'⟩
  have hS := hS.call0 hS'
  repeat (first | refine SemW.run tblOk ?_ | refine jA (by omega) ?_ | refine jB (by omega) ?_ | refine jC (by omega) ?_ | refine jD (by omega) ?_ | refine jE rfl ?_ | refine jF (by omega) ?_ | (refine jG ?_; first | with_reducible (first | refine jH ?_ | refine jI ?_ | refine jJ ?_ | refine jK ?_ | refine jL ?_) | refine jM (by omega) ?_ | refine jN (by omega) ?_ | with_reducible refine jM rfl ?_ | refine jM (by assumption) ?_ | refine jN (by assumption) ?_ | refine jM (by decide) ?_ | refine jN (by decide) ?_) | refine jF (ptr_ok tblOk rfl rfl) ?_ | refine jO (fun _ => by kernel_rfl) ?_ | refine jF (by decide) ?_)
  exact ⟨rfl, hS⟩
end Go.Proofs.YthpmmfapolcaiaaDoor

/- The document's reader's texts (tarmacref01). -/
namespace Go.Proofs.YthpmmfapolcaiaaDoor
open Go Go.Eng Go.Proofs
set_option maxHeartbeats 1000000 in
theorem RTextE_spec {w : World} {b : Nat} {t : Bytes} (hh : Holds [(b, rdC' t)] w) (ht : t.length ≤ 70368744177664) :
    Cl Tryd.prog f_tarmacref01_Reader_Text [ptr b] w fun v w' => v = .tuple ⟨[Str (textO t).1, .int .i64 (textO t).2.1]⟩ ∧ St w [b] [(b, rdC' (textO t).2.2)] w' := by
  have hS : St w [b] [(b, rdC' t)] w := St.enter hh
  refine en_tarmacref01_Reader_Text rfl ?_
  repeat (first | refine SemW.run tblOk ?_ | refine jA (by omega) ?_ | refine jB (by omega) ?_ | refine jC (by omega) ?_ | refine jD (by omega) ?_ | refine jE rfl ?_ | refine jF (by omega) ?_ | (refine jG ?_; first | with_reducible (first | refine jH ?_ | refine jI ?_ | refine jJ ?_ | refine jK ?_ | refine jL ?_) | refine jM (by omega) ?_ | refine jN (by omega) ?_ | with_reducible refine jM rfl ?_ | refine jM (by assumption) ?_ | refine jN (by assumption) ?_ | refine jM (by decide) ?_ | refine jN (by decide) ?_) | refine jF (ptr_ok tblOk rfl rfl) ?_ | refine jO (fun _ => by kernel_rfl) ?_ | refine jF (by decide) ?_ | refine hS.ld rfl ?_ | refine hS.ldn rfl ?_ | (refine hS.st rfl rfl ?_; intro _ hS))
  refine Cl.mono (RNumE_spec hh ht) ?_
  rintro _ w1 ⟨rfl, hS1⟩
  have hlt := numO_lt t
  have hln := numO_len t
  unfold textO textR
  cases h : numR t with
  | none =>
    have hn : numO t = (0, 1, t) := by unfold numO; rw [h]
    rw [hn] at hS1 ⊢
    simp only at hS1 ⊢
    have hS := hS1
    repeat (first | refine SemW.run tblOk ?_ | refine jA (by omega) ?_ | refine jB (by omega) ?_ | refine jC (by omega) ?_ | refine jD (by omega) ?_ | refine jE rfl ?_ | refine jF (by omega) ?_ | (refine jG ?_; first | with_reducible (first | refine jH ?_ | refine jI ?_ | refine jJ ?_ | refine jK ?_ | refine jL ?_) | refine jM (by omega) ?_ | refine jN (by omega) ?_ | with_reducible refine jM rfl ?_ | refine jM (by assumption) ?_ | refine jN (by assumption) ?_ | refine jM (by decide) ?_ | refine jN (by decide) ?_) | refine jF (ptr_ok tblOk rfl rfl) ?_ | refine jO (fun _ => by kernel_rfl) ?_ | refine jF (by decide) ?_ | refine hS.ld rfl ?_ | refine hS.ldn rfl ?_ | (refine hS.st rfl rfl ?_; intro _ hS))
    exact ⟨rfl, hS⟩
  | some x =>
    obtain ⟨m, r⟩ := x
    have hn : numO t = (m, 0, r) := by unfold numO; rw [h]
    rw [hn] at hS1 hlt hln ⊢
    simp only at hS1 hlt hln ⊢
    have hS := hS1
    by_cases hm : r.length < m
    · rw [if_pos hm]
      repeat (first | refine SemW.run tblOk ?_ | refine jA (by omega) ?_ | refine jB (by omega) ?_ | refine jC (by omega) ?_ | refine jD (by omega) ?_ | refine jE rfl ?_ | refine jF (by omega) ?_ | (refine jG ?_; first | with_reducible (first | refine jH ?_ | refine jI ?_ | refine jJ ?_ | refine jK ?_ | refine jL ?_) | refine jM (by omega) ?_ | refine jN (by omega) ?_ | with_reducible refine jM rfl ?_ | refine jM (by assumption) ?_ | refine jN (by assumption) ?_ | refine jM (by decide) ?_ | refine jN (by decide) ?_) | refine jF (ptr_ok tblOk rfl rfl) ?_ | refine jO (fun _ => by kernel_rfl) ?_ | refine jF (by decide) ?_ | refine hS.ld rfl ?_ | refine hS.ldn rfl ?_ | (refine hS.st rfl rfl ?_; intro _ hS))
      exact ⟨rfl, hS⟩
    · rw [if_neg hm]
      repeat (first | refine SemW.run tblOk ?_ | refine jA (by omega) ?_ | refine jB (by omega) ?_ | refine jC (by omega) ?_ | refine jD (by omega) ?_ | refine jE rfl ?_ | refine jF (by omega) ?_ | (refine jG ?_; first | with_reducible (first | refine jH ?_ | refine jI ?_ | refine jJ ?_ | refine jK ?_ | refine jL ?_) | refine jM (by omega) ?_ | refine jN (by omega) ?_ | with_reducible refine jM rfl ?_ | refine jM (by assumption) ?_ | refine jN (by assumption) ?_ | refine jM (by decide) ?_ | refine jN (by decide) ?_) | refine jF (ptr_ok tblOk rfl rfl) ?_ | refine jO (fun _ => by kernel_rfl) ?_ | refine jF (by decide) ?_ | refine hS.ld rfl ?_ | refine hS.ldn rfl ?_ | (refine hS.st rfl rfl ?_; intro _ hS))
      exact ⟨rfl, hS⟩
end Go.Proofs.YthpmmfapolcaiaaDoor

/- Package wire: the writer. -/
namespace Go.Proofs.YthpmmfapolcaiaaDoor
open Go Go.Eng Go.Proofs
abbrev wrV (pb : Nat) : Value := .agg ⟨[ptr pb]⟩
/-- The pointers of a row lead to these values, outside of the blocks T. -/
def PtrsAt (w : World) (T : List Nat) (ps : List (Nat × Nat)) (vs : List Value) : Prop := ∀ (j : Nat) (h : j < ps.length) (h2 : j < vs.length), ps[j].1 ∉ T ∧ w.cell? ⟨ps[j].1, ps[j].2, none⟩ = some vs[j]
abbrev ptrsV (ps : List (Nat × Nat)) : List Value := ps.map fun p => ptrTo p.1 p.2
set_option maxHeartbeats 1000000 in
theorem wint_spec {w : World} {pb : Nat} {bs : Bytes} {L : Heap} (hW : PackW pb bs L) (hh : Holds L w) {a : Option Addr} {cap : Nat} {ps : List (Nat × Nat)} {zs : List Int} (ha : Arr w (keys L) a (ptrsV ps)) (hl : ps.length = zs.length) (hp : PtrsAt w (keys L) ps (zs.map intV)) (hn : ∀ z ∈ zs, i64ok z) (hlen : bs.length + 10 * zs.length ≤ 70368744177664) :
    Cl Tryd.prog f_wire_writer_int [wrV pb, .slice a ps.length cap] w fun _ w' => ∃ L', PackW pb (bs ++ intsB zs) L' ∧ St w (keys L) L' w' := by
  have hS := St.enter hh
  generalize hT : keys L = T0 at hS ha hp ⊢
  refine en_wire_writer_int rfl ?_
  repeat (first | refine SemW.run tblOk ?_ | refine jA (by omega) ?_ | refine jB (by omega) ?_ | refine jC (by omega) ?_ | refine jD (by omega) ?_ | refine jE rfl ?_ | refine jF (by omega) ?_ | (refine jG ?_; first | with_reducible (first | refine jH ?_ | refine jI ?_ | refine jJ ?_ | refine jK ?_ | refine jL ?_) | refine jM (by omega) ?_ | refine jN (by omega) ?_ | with_reducible refine jM rfl ?_ | refine jM (by assumption) ?_ | refine jN (by assumption) ?_ | refine jM (by decide) ?_ | refine jN (by decide) ?_) | refine jF (ptr_ok tblOk rfl rfl) ?_ | refine jO (fun _ => by kernel_rfl) ?_ | refine jF (by decide) ?_)
  refine hS.al ?_
  intro tb w1 _ hS
  repeat (first | refine SemW.run tblOk ?_ | refine jA (by omega) ?_ | refine jB (by omega) ?_ | refine jC (by omega) ?_ | refine jD (by omega) ?_ | refine jE rfl ?_ | refine jF (by omega) ?_ | (refine jG ?_; first | with_reducible (first | refine jH ?_ | refine jI ?_ | refine jJ ?_ | refine jK ?_ | refine jL ?_) | refine jM (by omega) ?_ | refine jN (by omega) ?_ | with_reducible refine jM rfl ?_ | refine jM (by assumption) ?_ | refine jN (by assumption) ?_ | refine jM (by decide) ?_ | refine jN (by decide) ?_) | refine jF (ptr_ok tblOk rfl rfl) ?_ | refine jO (fun _ => by kernel_rfl) ?_ | refine jF (by decide) ?_)
  refine SemW.loop (fun k : Nat => [(2, ptr tb), (6, .slice a ps.length cap), (7, .int .i64 ps.length), (8, .int .i64 k)])
    (fun k w' => k ≤ ps.length ∧ ∃ L', PackW pb (bs ++ intsB (zs.take k)) L' ∧ St w T0 ((tb, .cells ⟨[ptr pb]⟩ T_wire_writer (0, 0)) :: L') w') (fun k => ps.length - k) 0
    ⟨rfl, rfl, rfl, rfl, trivial⟩ ⟨Nat.zero_le _, L, by simpa [intsB] using hW, hS⟩ ?_
  clear hS
  rintro k w2 ⟨hk, L1, hW1, hS⟩
  by_cases hkl : k < ps.length
  · obtain ⟨b', off', rfl, hbT, hck⟩ := ha.get (j := k) (by simp; omega)
    simp only [List.getElem_map] at hck
    obtain ⟨hpT, hpc⟩ := hp k hkl (by rw [List.length_map]; omega)
    rw [List.getElem_map] at hpc
    have hkz : k < zs.length := by omega
    have hs := ints_succ zs k hkz
    have hil := ints_len (zs.take k) (fun z hz => hn z (List.mem_of_mem_take hz))
    rw [List.length_take] at hil
    have hzk := hn zs[k] (List.getElem_mem hkz)
    generalize ps[k] = p at hck hpT hpc
    generalize zs[k] = z at hpc hs hzk
    repeat (first | refine SemW.run tblOk ?_ | refine jA (by omega) ?_ | refine jB (by omega) ?_ | refine jC (by omega) ?_ | refine jD (by omega) ?_ | refine jE rfl ?_ | refine jF (by omega) ?_ | (refine jG ?_; first | with_reducible (first | refine jH ?_ | refine jI ?_ | refine jJ ?_ | refine jK ?_ | refine jL ?_) | refine jM (by omega) ?_ | refine jN (by omega) ?_ | with_reducible refine jM rfl ?_ | refine jM (by assumption) ?_ | refine jN (by assumption) ?_ | refine jM (by decide) ?_ | refine jN (by decide) ?_) | refine jF (ptr_ok tblOk rfl rfl) ?_ | refine jO (fun _ => by kernel_rfl) ?_ | refine jF (by decide) ?_)
    refine hS.ldOld hbT (by simpa using hck) ?_
    repeat (first | refine SemW.run tblOk ?_ | refine jA (by omega) ?_ | refine jB (by omega) ?_ | refine jC (by omega) ?_ | refine jD (by omega) ?_ | refine jE rfl ?_ | refine jF (by omega) ?_ | (refine jG ?_; first | with_reducible (first | refine jH ?_ | refine jI ?_ | refine jJ ?_ | refine jK ?_ | refine jL ?_) | refine jM (by omega) ?_ | refine jN (by omega) ?_ | with_reducible refine jM rfl ?_ | refine jM (by assumption) ?_ | refine jN (by assumption) ?_ | refine jM (by decide) ?_ | refine jN (by decide) ?_) | refine jF (ptr_ok tblOk rfl rfl) ?_ | refine jO (fun _ => by kernel_rfl) ?_ | refine jF (by decide) ?_)
    refine SemW.draw tblOk mixed (fun w' => St w T0 ((tb, .cells ⟨[ptr pb]⟩ T_wire_writer (0, 0)) :: L1) w') [6] [0, 1, 2, 3, 4, 5, 6] (by kernel_rfl) hS.drew ?_
    have hS := hS.drew
    generalize w2.drew = w2 at hS
    repeat (first | refine SemW.run tblOk ?_ | refine jA (by omega) ?_ | refine jB (by omega) ?_ | refine jC (by omega) ?_ | refine jD (by omega) ?_ | refine jE rfl ?_ | refine jF (by omega) ?_ | (refine jG ?_; first | with_reducible (first | refine jH ?_ | refine jI ?_ | refine jJ ?_ | refine jK ?_ | refine jL ?_) | refine jM (by omega) ?_ | refine jN (by omega) ?_ | with_reducible refine jM rfl ?_ | refine jM (by assumption) ?_ | refine jN (by assumption) ?_ | refine jM (by decide) ?_ | refine jN (by decide) ?_) | refine jF (ptr_ok tblOk rfl rfl) ?_ | refine jO (fun _ => by kernel_rfl) ?_ | refine jF (by decide) ?_ | refine hS.ldC rfl ?_ | refine hS.ldnC rfl ?_)
    refine hS.ldOldC hpT hpc ?_
    unfold intV
    repeat (first | refine SemW.run tblOk ?_ | refine jA (by omega) ?_ | refine jB (by omega) ?_ | refine jC (by omega) ?_ | refine jD (by omega) ?_ | refine jE rfl ?_ | refine jF (by omega) ?_ | (refine jG ?_; first | with_reducible (first | refine jH ?_ | refine jI ?_ | refine jJ ?_ | refine jK ?_ | refine jL ?_) | refine jM (by omega) ?_ | refine jN (by omega) ?_ | with_reducible refine jM rfl ?_ | refine jM (by assumption) ?_ | refine jN (by assumption) ?_ | refine jM (by decide) ?_ | refine jN (by decide) ?_) | refine jF (ptr_ok tblOk rfl rfl) ?_ | refine jO (fun _ => by kernel_rfl) ?_ | refine jF (by decide) ?_ | refine hS.ldC rfl ?_ | refine hS.ldnC rfl ?_)
    refine hS.al ?_
    intro r w3 _ hS
    refine Chk.mk (hS.sub (List.sublist_cons_self _ _)) ?_
    repeat (first | refine SemW.run tblOk ?_ | refine jA (by omega) ?_ | refine jB (by omega) ?_ | refine jC (by omega) ?_ | refine jD (by omega) ?_ | refine jE rfl ?_ | refine jF (by omega) ?_ | (refine jG ?_; first | with_reducible (first | refine jH ?_ | refine jI ?_ | refine jJ ?_ | refine jK ?_ | refine jL ?_) | refine jM (by omega) ?_ | refine jN (by omega) ?_ | with_reducible refine jM rfl ?_ | refine jM (by assumption) ?_ | refine jN (by assumption) ?_ | refine jM (by decide) ?_ | refine jN (by decide) ?_) | refine jF (ptr_ok tblOk rfl rfl) ?_ | refine jO (fun _ => by kernel_rfl) ?_ | refine jF (by decide) ?_ | refine hS.ldC rfl ?_ | refine hS.ldnC rfl ?_)
    refine Cl.mono (Int_spec hW1 (hS.part (L := L1)) (zs := [z]) (hS.arr (b := r) (nodup_chunk hS)) (by intro y hy; rw [List.mem_singleton] at hy; subst hy; exact hzk) (by simp) (by simp only [List.length_append, List.length_singleton]; omega)) ?_
    rintro _ w4 ⟨L2, hW2, hS'⟩
    have hS := (hS.call (L := L1) hS').sub (List.sublist_cons_self _ _)
    repeat (first | refine SemW.run tblOk ?_ | refine jA (by omega) ?_ | refine jB (by omega) ?_ | refine jC (by omega) ?_ | refine jD (by omega) ?_ | refine jE rfl ?_ | refine jF (by omega) ?_ | (refine jG ?_; first | with_reducible (first | refine jH ?_ | refine jI ?_ | refine jJ ?_ | refine jK ?_ | refine jL ?_) | refine jM (by omega) ?_ | refine jN (by omega) ?_ | with_reducible refine jM rfl ?_ | refine jM (by assumption) ?_ | refine jN (by assumption) ?_ | refine jM (by decide) ?_ | refine jN (by decide) ?_) | refine jF (ptr_ok tblOk rfl rfl) ?_ | refine jO (fun _ => by kernel_rfl) ?_ | refine jF (by decide) ?_)
    exact ⟨k + 1, ⟨rfl, rfl, rfl, rfl, trivial⟩, ⟨by omega, L2, by rw [hs]; simpa [intsB] using hW2, hS⟩, by omega⟩
  · have hke : k = zs.length := by omega
    subst hke
    rw [List.take_length] at hW1
    repeat (first | refine SemW.run tblOk ?_ | refine jA (by omega) ?_ | refine jB (by omega) ?_ | refine jC (by omega) ?_ | refine jD (by omega) ?_ | refine jE rfl ?_ | refine jF (by omega) ?_ | (refine jG ?_; first | with_reducible (first | refine jH ?_ | refine jI ?_ | refine jJ ?_ | refine jK ?_ | refine jL ?_) | refine jM (by omega) ?_ | refine jN (by omega) ?_ | with_reducible refine jM rfl ?_ | refine jM (by assumption) ?_ | refine jN (by assumption) ?_ | refine jM (by decide) ?_ | refine jN (by decide) ?_) | refine jF (ptr_ok tblOk rfl rfl) ?_ | refine jO (fun _ => by kernel_rfl) ?_ | refine jF (by decide) ?_)
    exact ⟨L1, hW1, hS.sub (List.sublist_cons_self _ _)⟩
set_option maxHeartbeats 1000000 in
theorem wmarks_spec {w : World} {pb : Nat} {bs : Bytes} {L : Heap} (hW : PackW pb bs L) (hh : Holds L w) {a : Option Addr} {cap : Nat} {ps : List (Nat × Nat)} {l : List Bool} (ha : Arr w (keys L) a (ptrsV ps)) (hpl : ps.length = l.length) (hp : PtrsAt w (keys L) ps (l.map Value.bool)) (hl : l.length ≤ 8) (hlen : bs.length ≤ 70368744177664) :
    Cl Tryd.prog f_wire_writer_marks [wrV pb, .slice a ps.length cap] w fun _ w' => ∃ L', PackW pb (bs ++ numB (marksN l)) L' ∧ St w (keys L) L' w' := by
  have hS := St.enter hh
  generalize hT : keys L = T0 at hS ha hp ⊢
  refine en_wire_writer_marks rfl ?_
  repeat (first | refine SemW.run tblOk ?_ | refine jA (by omega) ?_ | refine jB (by omega) ?_ | refine jC (by omega) ?_ | refine jD (by omega) ?_ | refine jE rfl ?_ | refine jF (by omega) ?_ | (refine jG ?_; first | with_reducible (first | refine jH ?_ | refine jI ?_ | refine jJ ?_ | refine jK ?_ | refine jL ?_) | refine jM (by omega) ?_ | refine jN (by omega) ?_ | with_reducible refine jM rfl ?_ | refine jM (by assumption) ?_ | refine jN (by assumption) ?_ | refine jM (by decide) ?_ | refine jN (by decide) ?_) | refine jF (ptr_ok tblOk rfl rfl) ?_ | refine jO (fun _ => by kernel_rfl) ?_ | refine jF (by decide) ?_)
  refine hS.al ?_
  intro tb w1 _ hS
  repeat (first | refine SemW.run tblOk ?_ | refine jA (by omega) ?_ | refine jB (by omega) ?_ | refine jC (by omega) ?_ | refine jD (by omega) ?_ | refine jE rfl ?_ | refine jF (by omega) ?_ | (refine jG ?_; first | with_reducible (first | refine jH ?_ | refine jI ?_ | refine jJ ?_ | refine jK ?_ | refine jL ?_) | refine jM (by omega) ?_ | refine jN (by omega) ?_ | with_reducible refine jM rfl ?_ | refine jM (by assumption) ?_ | refine jN (by assumption) ?_ | refine jM (by decide) ?_ | refine jN (by decide) ?_) | refine jF (ptr_ok tblOk rfl rfl) ?_ | refine jO (fun _ => by kernel_rfl) ?_ | refine jF (by decide) ?_)
  refine SemW.loop (fun k : Nat => [(2, ptr tb), (4, .int .u64 (marksN (l.take k) : Nat)), (7, .slice a ps.length cap), (8, .int .i64 ps.length), (9, .int .i64 k)])
    (fun k w' => k ≤ l.length ∧ St w T0 ((tb, .cells ⟨[ptr pb]⟩ T_wire_writer (0, 0)) :: L) w') (fun k => l.length - k) 0
    ⟨rfl, rfl, rfl, rfl, rfl, trivial⟩ ⟨Nat.zero_le _, hS⟩ ?_
  clear hS
  rintro k w2 ⟨hk, hS⟩
  by_cases hkl : k < l.length
  · obtain ⟨b', off', rfl, hbT, hck⟩ := ha.get (j := k) (by simp; omega)
    simp only [List.getElem_map] at hck
    obtain ⟨hpT, hpc⟩ := hp k (by omega) (by rw [List.length_map]; omega)
    rw [List.getElem_map] at hpc
    have hsn := marksN_snoc (l.take k) l[k]
    rw [← List.take_succ_eq_append_getElem hkl] at hsn
    have hlt := marksN_lt (l.take k)
    have htk : (l.take k).length = k := by simp; omega
    rw [htk] at hlt hsn
    have hk8 : 2 ^ k ≤ 2 ^ 7 := Nat.pow_le_pow_right (by omega) (by omega)
    generalize marksN (l.take k) = m at hsn hlt ⊢
    generalize ps[k] = p at hck hpT hpc
    repeat (first | refine SemW.run tblOk ?_ | refine jA (by omega) ?_ | refine jB (by omega) ?_ | refine jC (by omega) ?_ | refine jD (by omega) ?_ | refine jE rfl ?_ | refine jF (by omega) ?_ | (refine jG ?_; first | with_reducible (first | refine jH ?_ | refine jI ?_ | refine jJ ?_ | refine jK ?_ | refine jL ?_) | refine jM (by omega) ?_ | refine jN (by omega) ?_ | with_reducible refine jM rfl ?_ | refine jM (by assumption) ?_ | refine jN (by assumption) ?_ | refine jM (by decide) ?_ | refine jN (by decide) ?_) | refine jF (ptr_ok tblOk rfl rfl) ?_ | refine jO (fun _ => by kernel_rfl) ?_ | refine jF (by decide) ?_)
    refine hS.ldOld hbT (by simpa using hck) ?_
    repeat (first | refine SemW.run tblOk ?_ | refine jA (by omega) ?_ | refine jB (by omega) ?_ | refine jC (by omega) ?_ | refine jD (by omega) ?_ | refine jE rfl ?_ | refine jF (by omega) ?_ | (refine jG ?_; first | with_reducible (first | refine jH ?_ | refine jI ?_ | refine jJ ?_ | refine jK ?_ | refine jL ?_) | refine jM (by omega) ?_ | refine jN (by omega) ?_ | with_reducible refine jM rfl ?_ | refine jM (by assumption) ?_ | refine jN (by assumption) ?_ | refine jM (by decide) ?_ | refine jN (by decide) ?_) | refine jF (ptr_ok tblOk rfl rfl) ?_ | refine jO (fun _ => by kernel_rfl) ?_ | refine jF (by decide) ?_)
    refine hS.ldOld hpT hpc ?_
    generalize l[k] = bit at hsn ⊢
    cases bit with
    | true =>
      simp only [if_true] at hsn
      have e1 : orI .u64 (m : Int) (IntKind.u64.wrap (1 * 2 ^ (min ((k : Int)).toNat IntKind.u64.bits))) = ((m + 2 ^ k : Nat) : Int) := by
        rw [show min ((k : Int)).toNat IntKind.u64.bits = k by show min _ 64 = _; omega]
        have e2 : (1 : Int) * 2 ^ k = ((2 ^ k : Nat) : Int) := by simp
        have e3 : 2 ^ k % 2 ^ IntKind.u64.bits = 2 ^ k := Nat.mod_eq_of_lt (show 2 ^ k < 18446744073709551616 by omega)
        rw [e2, wrapU .u64 rfl, e3, orU .u64 rfl _ _ (show m < 18446744073709551616 by omega) (show 2 ^ k < 18446744073709551616 by omega), Nat.or_comm]
        have := or_add 1 m k hlt
        rw [Nat.one_mul] at this
        rw [this, Nat.add_comm]
      repeat (first | refine SemW.run tblOk ?_ | refine jA (by omega) ?_ | refine jB (by omega) ?_ | refine jC (by omega) ?_ | refine jD (by omega) ?_ | refine jE rfl ?_ | refine jF (by omega) ?_ | (refine jG ?_; first | with_reducible (first | refine jH ?_ | refine jI ?_ | refine jJ ?_ | refine jK ?_ | refine jL ?_) | refine jM (by omega) ?_ | refine jN (by omega) ?_ | with_reducible refine jM rfl ?_ | refine jM (by assumption) ?_ | refine jN (by assumption) ?_ | refine jM (by decide) ?_ | refine jN (by decide) ?_) | refine jF (ptr_ok tblOk rfl rfl) ?_ | refine jO (fun _ => by kernel_rfl) ?_ | refine jF (by decide) ?_)
      rw [e1]
      repeat (first | refine SemW.run tblOk ?_ | refine jA (by omega) ?_ | refine jB (by omega) ?_ | refine jC (by omega) ?_ | refine jD (by omega) ?_ | refine jE rfl ?_ | refine jF (by omega) ?_ | (refine jG ?_; first | with_reducible (first | refine jH ?_ | refine jI ?_ | refine jJ ?_ | refine jK ?_ | refine jL ?_) | refine jM (by omega) ?_ | refine jN (by omega) ?_ | with_reducible refine jM rfl ?_ | refine jM (by assumption) ?_ | refine jN (by assumption) ?_ | refine jM (by decide) ?_ | refine jN (by decide) ?_) | refine jF (ptr_ok tblOk rfl rfl) ?_ | refine jO (fun _ => by kernel_rfl) ?_ | refine jF (by decide) ?_)
      exact ⟨k + 1, ⟨rfl, congrArg (Value.int .u64) (by rw [hsn]), rfl, rfl, rfl, trivial⟩, ⟨by omega, hS⟩, by omega⟩
    | false =>
      simp only [Bool.false_eq_true, if_false, Nat.add_zero] at hsn
      repeat (first | refine SemW.run tblOk ?_ | refine jA (by omega) ?_ | refine jB (by omega) ?_ | refine jC (by omega) ?_ | refine jD (by omega) ?_ | refine jE rfl ?_ | refine jF (by omega) ?_ | (refine jG ?_; first | with_reducible (first | refine jH ?_ | refine jI ?_ | refine jJ ?_ | refine jK ?_ | refine jL ?_) | refine jM (by omega) ?_ | refine jN (by omega) ?_ | with_reducible refine jM rfl ?_ | refine jM (by assumption) ?_ | refine jN (by assumption) ?_ | refine jM (by decide) ?_ | refine jN (by decide) ?_) | refine jF (ptr_ok tblOk rfl rfl) ?_ | refine jO (fun _ => by kernel_rfl) ?_ | refine jF (by decide) ?_)
      exact ⟨k + 1, ⟨rfl, congrArg (Value.int .u64) (by rw [hsn]), rfl, rfl, rfl, trivial⟩, ⟨by omega, hS⟩, by omega⟩
  · have hke : k = l.length := by omega
    subst hke
    rw [List.take_length]
    have hlt := marksN_lt l
    have hk8 : 2 ^ l.length ≤ 2 ^ 8 := Nat.pow_le_pow_right (by omega) hl
    repeat (first | refine SemW.run tblOk ?_ | refine jA (by omega) ?_ | refine jB (by omega) ?_ | refine jC (by omega) ?_ | refine jD (by omega) ?_ | refine jE rfl ?_ | refine jF (by omega) ?_ | (refine jG ?_; first | with_reducible (first | refine jH ?_ | refine jI ?_ | refine jJ ?_ | refine jK ?_ | refine jL ?_) | refine jM (by omega) ?_ | refine jN (by omega) ?_ | with_reducible refine jM rfl ?_ | refine jM (by assumption) ?_ | refine jN (by assumption) ?_ | refine jM (by decide) ?_ | refine jN (by decide) ?_) | refine jF (ptr_ok tblOk rfl rfl) ?_ | refine jO (fun _ => by kernel_rfl) ?_ | refine jF (by decide) ?_ | refine hS.ld rfl ?_ | refine hS.ldn rfl ?_ | (refine hS.st rfl rfl ?_; intro _ hS))
    refine hS.al ?_
    intro r w3 _ hS
    repeat (first | refine SemW.run tblOk ?_ | refine jA (by omega) ?_ | refine jB (by omega) ?_ | refine jC (by omega) ?_ | refine jD (by omega) ?_ | refine jE rfl ?_ | refine jF (by omega) ?_ | (refine jG ?_; first | with_reducible (first | refine jH ?_ | refine jI ?_ | refine jJ ?_ | refine jK ?_ | refine jL ?_) | refine jM (by omega) ?_ | refine jN (by omega) ?_ | with_reducible refine jM rfl ?_ | refine jM (by assumption) ?_ | refine jN (by assumption) ?_ | refine jM (by decide) ?_ | refine jN (by decide) ?_) | refine jF (ptr_ok tblOk rfl rfl) ?_ | refine jO (fun _ => by kernel_rfl) ?_ | refine jF (by decide) ?_ | refine hS.ld rfl ?_ | refine hS.ldn rfl ?_ | (refine hS.st rfl rfl ?_; intro _ hS))
    refine Cl.mono (Num_spec hW (hS.part (L := L)) (ns := [marksN l]) (hS.arr (b := r) (nodup_chunk hS)) (by intro n hn; simp only [List.mem_cons, List.mem_nil_iff, or_false] at hn; subst hn; omega) (by simp) (by simp; omega)) ?_
    rintro _ w4 ⟨L1, hW1, hS'⟩
    have hS := hS.call (L := L) hS'
    repeat (first | refine SemW.run tblOk ?_ | refine jA (by omega) ?_ | refine jB (by omega) ?_ | refine jC (by omega) ?_ | refine jD (by omega) ?_ | refine jE rfl ?_ | refine jF (by omega) ?_ | (refine jG ?_; first | with_reducible (first | refine jH ?_ | refine jI ?_ | refine jJ ?_ | refine jK ?_ | refine jL ?_) | refine jM (by omega) ?_ | refine jN (by omega) ?_ | with_reducible refine jM rfl ?_ | refine jM (by assumption) ?_ | refine jN (by assumption) ?_ | refine jM (by decide) ?_ | refine jN (by decide) ?_) | refine jF (ptr_ok tblOk rfl rfl) ?_ | refine jO (fun _ => by kernel_rfl) ?_ | refine jF (by decide) ?_)
    refine ⟨L1, ?_, hS.sub ((List.sublist_cons_self _ _).trans (List.sublist_cons_self _ _))⟩
    simpa using hW1
set_option maxHeartbeats 1000000 in
theorem wtext_spec {w : World} {pb : Nat} {bs : Bytes} {L : Heap} (hW : PackW pb bs L) (hh : Holds L w) {p : Nat × Nat} {x : Bytes} (hp : p.1 ∉ keys L ∧ w.cell? ⟨p.1, p.2, none⟩ = some (Str x)) (hlen : bs.length + x.length ≤ 70368744177664) :
    Cl Tryd.prog f_wire_writer_text [wrV pb, ptrTo p.1 p.2] w fun _ w' => ∃ L', PackW pb (bs ++ textB x) L' ∧ St w (keys L) L' w' := by
  have hS := St.enter hh
  have hsl : sumLen [x] = x.length := by simp [sumLen]
  generalize hT : keys L = T0 at hS hp ⊢
  refine en_wire_writer_text rfl ?_
  repeat (first | refine SemW.run tblOk ?_ | refine jA (by omega) ?_ | refine jB (by omega) ?_ | refine jC (by omega) ?_ | refine jD (by omega) ?_ | refine jE rfl ?_ | refine jF (by omega) ?_ | (refine jG ?_; first | with_reducible (first | refine jH ?_ | refine jI ?_ | refine jJ ?_ | refine jK ?_ | refine jL ?_) | refine jM (by omega) ?_ | refine jN (by omega) ?_ | with_reducible refine jM rfl ?_ | refine jM (by assumption) ?_ | refine jN (by assumption) ?_ | refine jM (by decide) ?_ | refine jN (by decide) ?_) | refine jF (ptr_ok tblOk rfl rfl) ?_ | refine jO (fun _ => by kernel_rfl) ?_ | refine jF (by decide) ?_)
  refine hS.al ?_
  intro tb w1 _ hS
  repeat (first | refine SemW.run tblOk ?_ | refine jA (by omega) ?_ | refine jB (by omega) ?_ | refine jC (by omega) ?_ | refine jD (by omega) ?_ | refine jE rfl ?_ | refine jF (by omega) ?_ | (refine jG ?_; first | with_reducible (first | refine jH ?_ | refine jI ?_ | refine jJ ?_ | refine jK ?_ | refine jL ?_) | refine jM (by omega) ?_ | refine jN (by omega) ?_ | with_reducible refine jM rfl ?_ | refine jM (by assumption) ?_ | refine jN (by assumption) ?_ | refine jM (by decide) ?_ | refine jN (by decide) ?_) | refine jF (ptr_ok tblOk rfl rfl) ?_ | refine jO (fun _ => by kernel_rfl) ?_ | refine jF (by decide) ?_)
  refine SemW.draw tblOk mixed (fun w' => St w T0 ((tb, .cells ⟨[ptr pb]⟩ T_wire_writer (0, 0)) :: L) w') [6] [0, 1, 2, 3, 4, 5, 6] (by kernel_rfl) hS.drew ?_
  have hS := hS.drew
  repeat (first | refine SemW.run tblOk ?_ | refine jA (by omega) ?_ | refine jB (by omega) ?_ | refine jC (by omega) ?_ | refine jD (by omega) ?_ | refine jE rfl ?_ | refine jF (by omega) ?_ | (refine jG ?_; first | with_reducible (first | refine jH ?_ | refine jI ?_ | refine jJ ?_ | refine jK ?_ | refine jL ?_) | refine jM (by omega) ?_ | refine jN (by omega) ?_ | with_reducible refine jM rfl ?_ | refine jM (by assumption) ?_ | refine jN (by assumption) ?_ | refine jM (by decide) ?_ | refine jN (by decide) ?_) | refine jF (ptr_ok tblOk rfl rfl) ?_ | refine jO (fun _ => by kernel_rfl) ?_ | refine jF (by decide) ?_ | refine hS.ldC rfl ?_ | refine hS.ldnC rfl ?_)
  refine hS.ldOldC hp.1 hp.2 ?_
  repeat (first | refine SemW.run tblOk ?_ | refine jA (by omega) ?_ | refine jB (by omega) ?_ | refine jC (by omega) ?_ | refine jD (by omega) ?_ | refine jE rfl ?_ | refine jF (by omega) ?_ | (refine jG ?_; first | with_reducible (first | refine jH ?_ | refine jI ?_ | refine jJ ?_ | refine jK ?_ | refine jL ?_) | refine jM (by omega) ?_ | refine jN (by omega) ?_ | with_reducible refine jM rfl ?_ | refine jM (by assumption) ?_ | refine jN (by assumption) ?_ | refine jM (by decide) ?_ | refine jN (by decide) ?_) | refine jF (ptr_ok tblOk rfl rfl) ?_ | refine jO (fun _ => by kernel_rfl) ?_ | refine jF (by decide) ?_ | refine hS.ldC rfl ?_ | refine hS.ldnC rfl ?_)
  refine hS.al ?_
  intro r w3 _ hS
  refine Chk.mk (hS.sub (List.sublist_cons_self _ _)) ?_
  repeat (first | refine SemW.run tblOk ?_ | refine jA (by omega) ?_ | refine jB (by omega) ?_ | refine jC (by omega) ?_ | refine jD (by omega) ?_ | refine jE rfl ?_ | refine jF (by omega) ?_ | (refine jG ?_; first | with_reducible (first | refine jH ?_ | refine jI ?_ | refine jJ ?_ | refine jK ?_ | refine jL ?_) | refine jM (by omega) ?_ | refine jN (by omega) ?_ | with_reducible refine jM rfl ?_ | refine jM (by assumption) ?_ | refine jN (by assumption) ?_ | refine jM (by decide) ?_ | refine jN (by decide) ?_) | refine jF (ptr_ok tblOk rfl rfl) ?_ | refine jO (fun _ => by kernel_rfl) ?_ | refine jF (by decide) ?_ | refine hS.ldC rfl ?_ | refine hS.ldnC rfl ?_)
  refine Cl.mono (Text_spec hW (hS.part (L := L)) (ss := [x]) (hS.arr (b := r) (nodup_chunk hS)) (by rw [hsl]; simp only [List.length_singleton]; omega)) ?_
  rintro _ w4 ⟨L2, hW2, hS'⟩
  have hS := (hS.call (L := L) hS').sub (List.sublist_cons_self _ _)
  repeat (first | refine SemW.run tblOk ?_ | refine jA (by omega) ?_ | refine jB (by omega) ?_ | refine jC (by omega) ?_ | refine jD (by omega) ?_ | refine jE rfl ?_ | refine jF (by omega) ?_ | (refine jG ?_; first | with_reducible (first | refine jH ?_ | refine jI ?_ | refine jJ ?_ | refine jK ?_ | refine jL ?_) | refine jM (by omega) ?_ | refine jN (by omega) ?_ | with_reducible refine jM rfl ?_ | refine jM (by assumption) ?_ | refine jN (by assumption) ?_ | refine jM (by decide) ?_ | refine jN (by decide) ?_) | refine jF (ptr_ok tblOk rfl rfl) ?_ | refine jO (fun _ => by kernel_rfl) ?_ | refine jF (by decide) ?_)
  exact ⟨L2, by simpa [textsB] using hW2, hS.sub (List.sublist_cons_self _ _)⟩
set_option maxHeartbeats 1000000 in
theorem wletter_spec {w : World} {pb : Nat} {bs : Bytes} {L : Heap} (hW : PackW pb bs L) (hh : Holds L w) {p : Nat × Nat} {c : Nat} (hc : c < 256) (hp : p.1 ∉ keys L ∧ w.cell? ⟨p.1, p.2, none⟩ = some (.int .u8 c)) (hlen : bs.length ≤ 70368744177664) :
    Cl Tryd.prog f_wire_writer_letter [wrV pb, ptrTo p.1 p.2] w fun _ w' => ∃ L', PackW pb (bs ++ numB c) L' ∧ St w (keys L) L' w' := by
  have hS := St.enter hh
  generalize hT : keys L = T0 at hS hp ⊢
  refine en_wire_writer_letter rfl ?_
  repeat (first | refine SemW.run tblOk ?_ | refine jA (by omega) ?_ | refine jB (by omega) ?_ | refine jC (by omega) ?_ | refine jD (by omega) ?_ | refine jE rfl ?_ | refine jF (by omega) ?_ | (refine jG ?_; first | with_reducible (first | refine jH ?_ | refine jI ?_ | refine jJ ?_ | refine jK ?_ | refine jL ?_) | refine jM (by omega) ?_ | refine jN (by omega) ?_ | with_reducible refine jM rfl ?_ | refine jM (by assumption) ?_ | refine jN (by assumption) ?_ | refine jM (by decide) ?_ | refine jN (by decide) ?_) | refine jF (ptr_ok tblOk rfl rfl) ?_ | refine jO (fun _ => by kernel_rfl) ?_ | refine jF (by decide) ?_)
  refine hS.al ?_
  intro tb w1 _ hS
  repeat (first | refine SemW.run tblOk ?_ | refine jA (by omega) ?_ | refine jB (by omega) ?_ | refine jC (by omega) ?_ | refine jD (by omega) ?_ | refine jE rfl ?_ | refine jF (by omega) ?_ | (refine jG ?_; first | with_reducible (first | refine jH ?_ | refine jI ?_ | refine jJ ?_ | refine jK ?_ | refine jL ?_) | refine jM (by omega) ?_ | refine jN (by omega) ?_ | with_reducible refine jM rfl ?_ | refine jM (by assumption) ?_ | refine jN (by assumption) ?_ | refine jM (by decide) ?_ | refine jN (by decide) ?_) | refine jF (ptr_ok tblOk rfl rfl) ?_ | refine jO (fun _ => by kernel_rfl) ?_ | refine jF (by decide) ?_)
  refine SemW.draw tblOk mixed (fun w' => St w T0 ((tb, .cells ⟨[ptr pb]⟩ T_wire_writer (0, 0)) :: L) w') [7] [0, 1, 2, 3, 4, 5, 6, 7] (by kernel_rfl) hS.drew ?_
  have hS := hS.drew
  repeat (first | refine SemW.run tblOk ?_ | refine jA (by omega) ?_ | refine jB (by omega) ?_ | refine jC (by omega) ?_ | refine jD (by omega) ?_ | refine jE rfl ?_ | refine jF (by omega) ?_ | (refine jG ?_; first | with_reducible (first | refine jH ?_ | refine jI ?_ | refine jJ ?_ | refine jK ?_ | refine jL ?_) | refine jM (by omega) ?_ | refine jN (by omega) ?_ | with_reducible refine jM rfl ?_ | refine jM (by assumption) ?_ | refine jN (by assumption) ?_ | refine jM (by decide) ?_ | refine jN (by decide) ?_) | refine jF (ptr_ok tblOk rfl rfl) ?_ | refine jO (fun _ => by kernel_rfl) ?_ | refine jF (by decide) ?_ | refine hS.ldC rfl ?_ | refine hS.ldnC rfl ?_)
  refine hS.ldOldC hp.1 hp.2 ?_
  repeat (first | refine SemW.run tblOk ?_ | refine jA (by omega) ?_ | refine jB (by omega) ?_ | refine jC (by omega) ?_ | refine jD (by omega) ?_ | refine jE rfl ?_ | refine jF (by omega) ?_ | (refine jG ?_; first | with_reducible (first | refine jH ?_ | refine jI ?_ | refine jJ ?_ | refine jK ?_ | refine jL ?_) | refine jM (by omega) ?_ | refine jN (by omega) ?_ | with_reducible refine jM rfl ?_ | refine jM (by assumption) ?_ | refine jN (by assumption) ?_ | refine jM (by decide) ?_ | refine jN (by decide) ?_) | refine jF (ptr_ok tblOk rfl rfl) ?_ | refine jO (fun _ => by kernel_rfl) ?_ | refine jF (by decide) ?_ | refine hS.ldC rfl ?_ | refine hS.ldnC rfl ?_)
  refine hS.al ?_
  intro r w3 _ hS
  refine Chk.mk (hS.sub (List.sublist_cons_self _ _)) ?_
  repeat (first | refine SemW.run tblOk ?_ | refine jA (by omega) ?_ | refine jB (by omega) ?_ | refine jC (by omega) ?_ | refine jD (by omega) ?_ | refine jE rfl ?_ | refine jF (by omega) ?_ | (refine jG ?_; first | with_reducible (first | refine jH ?_ | refine jI ?_ | refine jJ ?_ | refine jK ?_ | refine jL ?_) | refine jM (by omega) ?_ | refine jN (by omega) ?_ | with_reducible refine jM rfl ?_ | refine jM (by assumption) ?_ | refine jN (by assumption) ?_ | refine jM (by decide) ?_ | refine jN (by decide) ?_) | refine jF (ptr_ok tblOk rfl rfl) ?_ | refine jO (fun _ => by kernel_rfl) ?_ | refine jF (by decide) ?_ | refine hS.ldC rfl ?_ | refine hS.ldnC rfl ?_)
  refine Cl.mono (Num_spec hW (hS.part (L := L)) (ns := [c]) (hS.arr (b := r) (nodup_chunk hS)) (by intro n hn; simp only [List.mem_cons, List.mem_nil_iff, or_false] at hn; subst hn; omega) (by simp) (by simp; omega)) ?_
  rintro _ w4 ⟨L2, hW2, hS'⟩
  have hS := (hS.call (L := L) hS').sub (List.sublist_cons_self _ _)
  repeat (first | refine SemW.run tblOk ?_ | refine jA (by omega) ?_ | refine jB (by omega) ?_ | refine jC (by omega) ?_ | refine jD (by omega) ?_ | refine jE rfl ?_ | refine jF (by omega) ?_ | (refine jG ?_; first | with_reducible (first | refine jH ?_ | refine jI ?_ | refine jJ ?_ | refine jK ?_ | refine jL ?_) | refine jM (by omega) ?_ | refine jN (by omega) ?_ | with_reducible refine jM rfl ?_ | refine jM (by assumption) ?_ | refine jN (by assumption) ?_ | refine jM (by decide) ?_ | refine jN (by decide) ?_) | refine jF (ptr_ok tblOk rfl rfl) ?_ | refine jO (fun _ => by kernel_rfl) ?_ | refine jF (by decide) ?_)
  exact ⟨L2, by simpa using hW2, hS.sub (List.sublist_cons_self _ _)⟩
set_option maxHeartbeats 1000000 in
theorem wcount_spec {w : World} {pb : Nat} {bs : Bytes} {L : Heap} (hW : PackW pb bs L) (hh : Holds L w) {n : Nat} (hn : n ≤ 1099511627776) (hlen : bs.length ≤ 70368744177664) :
    Cl Tryd.prog f_wire_writer_count [wrV pb, .int .i64 n] w fun v w' => v = .int .i64 n ∧ ∃ L', PackW pb (bs ++ numB n) L' ∧ St w (keys L) L' w' := by
  have hS := St.enter hh
  generalize hT : keys L = T0 at hS ⊢
  refine en_wire_writer_count rfl ?_
  repeat (first | refine SemW.run tblOk ?_ | refine jA (by omega) ?_ | refine jB (by omega) ?_ | refine jC (by omega) ?_ | refine jD (by omega) ?_ | refine jE rfl ?_ | refine jF (by omega) ?_ | (refine jG ?_; first | with_reducible (first | refine jH ?_ | refine jI ?_ | refine jJ ?_ | refine jK ?_ | refine jL ?_) | refine jM (by omega) ?_ | refine jN (by omega) ?_ | with_reducible refine jM rfl ?_ | refine jM (by assumption) ?_ | refine jN (by assumption) ?_ | refine jM (by decide) ?_ | refine jN (by decide) ?_) | refine jF (ptr_ok tblOk rfl rfl) ?_ | refine jO (fun _ => by kernel_rfl) ?_ | refine jF (by decide) ?_)
  refine hS.al ?_
  intro tb w1 _ hS
  repeat (first | refine SemW.run tblOk ?_ | refine jA (by omega) ?_ | refine jB (by omega) ?_ | refine jC (by omega) ?_ | refine jD (by omega) ?_ | refine jE rfl ?_ | refine jF (by omega) ?_ | (refine jG ?_; first | with_reducible (first | refine jH ?_ | refine jI ?_ | refine jJ ?_ | refine jK ?_ | refine jL ?_) | refine jM (by omega) ?_ | refine jN (by omega) ?_ | with_reducible refine jM rfl ?_ | refine jM (by assumption) ?_ | refine jN (by assumption) ?_ | refine jM (by decide) ?_ | refine jN (by decide) ?_) | refine jF (ptr_ok tblOk rfl rfl) ?_ | refine jO (fun _ => by kernel_rfl) ?_ | refine jF (by decide) ?_ | refine hS.ld rfl ?_ | refine hS.ldn rfl ?_ | (refine hS.st rfl rfl ?_; intro _ hS))
  refine hS.al ?_
  intro r w3 _ hS
  repeat (first | refine SemW.run tblOk ?_ | refine jA (by omega) ?_ | refine jB (by omega) ?_ | refine jC (by omega) ?_ | refine jD (by omega) ?_ | refine jE rfl ?_ | refine jF (by omega) ?_ | (refine jG ?_; first | with_reducible (first | refine jH ?_ | refine jI ?_ | refine jJ ?_ | refine jK ?_ | refine jL ?_) | refine jM (by omega) ?_ | refine jN (by omega) ?_ | with_reducible refine jM rfl ?_ | refine jM (by assumption) ?_ | refine jN (by assumption) ?_ | refine jM (by decide) ?_ | refine jN (by decide) ?_) | refine jF (ptr_ok tblOk rfl rfl) ?_ | refine jO (fun _ => by kernel_rfl) ?_ | refine jF (by decide) ?_ | refine hS.ld rfl ?_ | refine hS.ldn rfl ?_ | (refine hS.st rfl rfl ?_; intro _ hS))
  refine Cl.mono (Num_spec hW (hS.part (L := L)) (ns := [n]) (hS.arr (b := r) (nodup_chunk hS)) (by intro m hm; simp only [List.mem_cons, List.mem_nil_iff, or_false] at hm; subst hm; omega) (by simp) (by simp; omega)) ?_
  rintro _ w4 ⟨L2, hW2, hS'⟩
  have hS := (hS.call (L := L) hS').sub (List.sublist_cons_self _ _)
  repeat (first | refine SemW.run tblOk ?_ | refine jA (by omega) ?_ | refine jB (by omega) ?_ | refine jC (by omega) ?_ | refine jD (by omega) ?_ | refine jE rfl ?_ | refine jF (by omega) ?_ | (refine jG ?_; first | with_reducible (first | refine jH ?_ | refine jI ?_ | refine jJ ?_ | refine jK ?_ | refine jL ?_) | refine jM (by omega) ?_ | refine jN (by omega) ?_ | with_reducible refine jM rfl ?_ | refine jM (by assumption) ?_ | refine jN (by assumption) ?_ | refine jM (by decide) ?_ | refine jN (by decide) ?_) | refine jF (ptr_ok tblOk rfl rfl) ?_ | refine jO (fun _ => by kernel_rfl) ?_ | refine jF (by decide) ?_)
  exact ⟨rfl, L2, by simpa using hW2, hS.sub (List.sublist_cons_self _ _)⟩
end Go.Proofs.YthpmmfapolcaiaaDoor
