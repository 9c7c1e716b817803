/- Conversions between byte slices and strings; integers of unsigned kinds as natural numbers. -/
import Derived.Test.YtkncpdehgcldbaaDoorVec
namespace Go.Eng
open Go
section
variable {P : Program} {T0 : Tbl}

theorem foldl_push_bytes : ∀ (l : List UInt8) (r : ByteArray), (l.map (fun b => (b.toNat : Int))).foldl (fun r n => r.push (UInt8.ofNat n.toNat)) r = ⟨r.data ++ l.toArray⟩
  | [], r => by simp
  | b :: l, r => by
    simp only [List.map_cons, List.foldl_cons, foldl_push_bytes l]
    apply ByteArray.ext
    simp

/-- string(b): the slice's bytes, in every world of C. -/
theorem toStr (hT : TOk P T0) {s d e : TypeId} {i ie id : TI} (hi : tf T0 s = some i) (hk : i.k = .slice e 1) (hie : tf T0 e = some ie) (hke : ie.k = .int .u8) (hid : tf T0 d = some id) (hkd : id.k = .str)
    {C : World → Prop} {T : List Nat} {a : Option Addr} {bs : List UInt8} {n cap : Nat} (hn : bs.length = n) (ha : ∀ w, C w → Arr w T a (bs.map byteV)) {K : Value → Prop} (hK : K (Str bs)) :
    RdG P (convert s d (.slice a n cap)) C K := by
  refine ⟨⟨_, fun w hw => ?_, hK⟩⟩
  have hs := und_of hT hi; rw [hk] at hs
  have he := und_of hT hie; rw [hke] at he
  have hd := und_of hT hid; rw [hkd] at hd
  rw [run_convert_bytes_string w s d e a n cap hs.1 he hd]
  cases a with
  | none =>
    cases bs with
    | nil => rfl
    | cons b bs => obtain ⟨_, _, h, _⟩ := ha w hw 0 (byteV b) rfl; cases h
  | some a =>
    have h1 := run_loadCells_list (P := P) (w := w) a ((bs.map fun b => (b.toNat : Int)).map (Value.int .u8)) (fun j v hj => by
      have hj' : (bs.map byteV)[j]? = some v := by simpa [byteV, List.getElem?_map, Function.comp] using hj
      obtain ⟨bk, off, h1, _, h3⟩ := ha w hw j v hj'
      cases h1
      rw [Addr.add_eq]; exact h3)
    rw [run_bytesToString (P := P) w a n cap (bs.map fun b => (b.toNat : Int)) (by simpa [hn] using h1)]
    congr 2
    rw [foldl_push_bytes]
    simp
end

/-! ### Unsigned integers -/
theorem wrapU (k : IntKind) (hs : k.signed = false) (n : Nat) : k.wrap (n : Int) = ((n % 2 ^ k.bits : Nat) : Int) := by
  unfold IntKind.wrap; simp only [hs]; simp
theorem u8wrap (n : Nat) : IntKind.u8.wrap (n : Int) = ((UInt8.ofNat n).toNat : Int) := by
  rw [wrapU .u8 rfl]; simp [UInt8.toNat_ofNat']; rfl
theorem fdivU (n k : Nat) : (n : Int).fdiv (k : Int) = ((n / k : Nat) : Int) := by
  rw [← Int.ofNat_fdiv]
theorem fdivP (n k : Nat) : (n : Int).fdiv (2 ^ k) = ((n / 2 ^ k : Nat) : Int) := by
  have : ((2 : Int) ^ k) = ((2 ^ k : Nat) : Int) := by simp
  rw [this, fdivU]
theorem orU (k : IntKind) (hs : k.signed = false) (x y : Nat) (hx : x < 2 ^ k.bits) (hy : y < 2 ^ k.bits) : orI k x y = ((x ||| y : Nat) : Int) := by
  unfold orI
  rw [BitVec.toNat_or, BitVec.ofInt_natCast, BitVec.ofInt_natCast, BitVec.toNat_ofNat, BitVec.toNat_ofNat, Nat.mod_eq_of_lt hx, Nat.mod_eq_of_lt hy, wrapU k hs, Nat.mod_eq_of_lt (Nat.or_lt_two_pow hx hy)]
theorem andU (k : IntKind) (hs : k.signed = false) (x y : Nat) (hx : x < 2 ^ k.bits) (hy : y < 2 ^ k.bits) : andI k x y = ((x &&& y : Nat) : Int) := by
  unfold andI
  rw [BitVec.toNat_and, BitVec.ofInt_natCast, BitVec.ofInt_natCast, BitVec.toNat_ofNat, BitVec.toNat_ofNat, Nat.mod_eq_of_lt hx, Nat.mod_eq_of_lt hy, wrapU k hs, Nat.mod_eq_of_lt (Nat.and_lt_two_pow _ hy)]
theorem xorU (k : IntKind) (hs : k.signed = false) (x y : Nat) (hx : x < 2 ^ k.bits) (hy : y < 2 ^ k.bits) : xorI k x y = ((x ^^^ y : Nat) : Int) := by
  unfold xorI
  rw [BitVec.toNat_xor, BitVec.ofInt_natCast, BitVec.ofInt_natCast, BitVec.toNat_ofNat, BitVec.toNat_ofNat, Nat.mod_eq_of_lt hx, Nat.mod_eq_of_lt hy, wrapU k hs, Nat.mod_eq_of_lt (Nat.xor_lt_two_pow hx hy)]
theorem or_add (a b k : Nat) (hb : b < 2 ^ k) : (a * 2 ^ k) ||| b = a * 2 ^ k + b := by
  rw [← Nat.shiftLeft_eq, Nat.shiftLeft_add_eq_or_of_lt hb]
end Go.Eng
