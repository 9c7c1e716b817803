/- Plain words for the digest of 32 bytes. -/
import Derived.Test.YtkncpdehgcldbaaDoorBase
namespace Go.Proofs.YtkncpdehgcldbaaDoor
open Go Go.Eng

def p32 : Nat := 4294967296
/-- Turned right by n bits. -/
def rotr (n x : Nat) : Nat := x / 2 ^ n + x % 2 ^ n * 2 ^ (32 - n)
theorem rotr_lt (n x : Nat) (h : n ≤ 32) (hx : x < p32) : rotr n x < p32 := by
  unfold rotr
  have hP : 0 < (2 : Nat) ^ n := Nat.pow_pos (by omega)
  have hM : 0 < (2 : Nat) ^ (32 - n) := Nat.pow_pos (by omega)
  have hpm : (2 : Nat) ^ n * 2 ^ (32 - n) = p32 := by rw [← Nat.pow_add, show n + (32 - n) = 32 by omega]; rfl
  generalize (2 : Nat) ^ n = P at *
  generalize (2 : Nat) ^ (32 - n) = M at *
  have hr : x % P < P := Nat.mod_lt _ hP
  have h1 : x / P < M := by
    rw [Nat.div_lt_iff_lt_mul hP, Nat.mul_comm, hpm]; exact hx
  have h2 : (x % P + 1) * M ≤ P * M := Nat.mul_le_mul_right _ hr
  rw [Nat.add_mul, Nat.one_mul, hpm] at h2
  omega
def kList : List Nat := [1116352408, 1899447441, 3049323471, 3921009573, 961987163, 1508970993, 2453635748, 2870763221, 3624381080, 310598401, 607225278, 1426881987, 1925078388, 2162078206, 2614888103, 3248222580, 3835390401, 4022224774, 264347078, 604807628, 770255983, 1249150122, 1555081692, 1996064986, 2554220882, 2821834349, 2952996808, 3210313671, 3336571891, 3584528711, 113926993, 338241895, 666307205, 773529912, 1294757372, 1396182291, 1695183700, 1986661051, 2177026350, 2456956037, 2730485921, 2820302411, 3259730800, 3345764771, 3516065817, 3600352804, 4094571909, 275423344, 430227734, 506948616, 659060556, 883997877, 958139571, 1322822218, 1537002063, 1747873779, 1955562222, 2024104815, 2227730452, 2361852424, 2428436474, 2756734187, 3204031479, 3329325298]
def hList : List Nat := [1779033703, 3144134277, 1013904242, 2773480762, 1359893119, 2600822924, 528734635, 1541459225]
/-- The word at byte 4 i. -/
def wordAt (b : Bytes) (i : Nat) : Nat := ((b.getD (4 * i) 0).toNat * 16777216 + (b.getD (4 * i + 1) 0).toNat * 65536) + (b.getD (4 * i + 2) 0).toNat * 256 + (b.getD (4 * i + 3) 0).toNat
theorem wordAt_lt (b : Bytes) (i : Nat) : wordAt b i < p32 := by
  unfold wordAt p32
  have h0 := (b.getD (4 * i) 0).toNat_lt
  have h1 := (b.getD (4 * i + 1) 0).toNat_lt
  have h2 := (b.getD (4 * i + 2) 0).toNat_lt
  have h3 := (b.getD (4 * i + 3) 0).toNat_lt
  omega
def sg0 (x : Nat) : Nat := rotr 7 x ^^^ rotr 18 x ^^^ x / 8
def sg1 (x : Nat) : Nat := rotr 17 x ^^^ rotr 19 x ^^^ x / 1024
def wNext (w : List Nat) (i : Nat) : Nat := (w.getD (i - 16) 0 + w.getD (i - 7) 0 + sg0 (w.getD (i - 15) 0) + sg1 (w.getD (i - 2) 0)) % p32
/-- The first 16 + n words. -/
def words (b : Bytes) : Nat → List Nat
  | 0 => (List.range 16).map (wordAt b)
  | n + 1 => words b n ++ [wNext (words b n) (16 + n)]
theorem words_len (b : Bytes) : ∀ n, (words b n).length = 16 + n
  | 0 => by simp [words]
  | n + 1 => by simp [words, words_len b n]; omega
theorem words_lt (b : Bytes) : ∀ n, ∀ x ∈ words b n, x < p32
  | 0, x, h => by
    simp only [words, List.mem_map] at h
    obtain ⟨i, -, rfl⟩ := h
    exact wordAt_lt b i
  | n + 1, x, h => by
    simp only [words, List.mem_append, List.mem_singleton] at h
    rcases h with h | rfl
    · exact words_lt b n x h
    · exact Nat.mod_lt _ (by decide)
def nt (x : Nat) : Nat := p32 - 1 - x
def bs0 (a : Nat) : Nat := rotr 2 a ^^^ rotr 13 a ^^^ rotr 22 a
def bs1 (e : Nat) : Nat := rotr 6 e ^^^ rotr 11 e ^^^ rotr 25 e
def t1M (v : List Nat) (k w : Nat) : Nat := (v.getD 7 0 + bs1 (v.getD 4 0) + ((v.getD 4 0 &&& v.getD 5 0) ^^^ (nt (v.getD 4 0) &&& v.getD 6 0)) + k + w) % p32
def t2M (v : List Nat) : Nat := (bs0 (v.getD 0 0) + ((v.getD 0 0 &&& v.getD 1 0) ^^^ (v.getD 0 0 &&& v.getD 2 0) ^^^ (v.getD 1 0 &&& v.getD 2 0))) % p32
def roundM (v : List Nat) (k w : Nat) : List Nat :=
  [(t1M v k w + t2M v) % p32, v.getD 0 0, v.getD 1 0, v.getD 2 0, (v.getD 3 0 + t1M v k w) % p32, v.getD 4 0, v.getD 5 0, v.getD 6 0]
def rounds (v w : List Nat) : Nat → List Nat
  | 0 => v
  | n + 1 => roundM (rounds v w n) (kList.getD n 0) (w.getD n 0)
def addM (h v : List Nat) : List Nat := (List.range 8).map fun i => (h.getD i 0 + v.getD i 0) % p32
def stepM (h : List Nat) (b : Bytes) : List Nat := addM h (rounds h (words b 48) 64)
/-- H behind n times 64 bytes of the text. -/
def hashN (t : Bytes) : Nat → List Nat
  | 0 => hList
  | n + 1 => stepM (hashN t n) ((t.drop (64 * n)).take 64)
theorem hashN_len (t : Bytes) : ∀ n, (hashN t n).length = 8
  | 0 => rfl
  | n + 1 => by simp [hashN, stepM, addM]
theorem hashN_lt (t : Bytes) : ∀ n, ∀ x ∈ hashN t n, x < p32
  | 0, x, h => by
    have : hList.all (fun x => decide (x < p32)) = true := by decide
    exact of_decide_eq_true (List.all_eq_true.1 this x h)
  | n + 1, x, h => by
    simp only [hashN, stepM, addM, List.mem_map] at h
    obtain ⟨i, -, rfl⟩ := h
    exact Nat.mod_lt _ (by decide)
theorem hashN_app (t u : Bytes) : ∀ n, 64 * n ≤ t.length → hashN (t ++ u) n = hashN t n
  | 0, _ => rfl
  | n + 1, h => by
    simp only [hashN]
    rw [hashN_app t u n (by omega)]
    congr 1
    rw [List.drop_append_of_le_length (by omega), List.take_append_of_le_length (by rw [List.length_drop]; omega)]
def be8 (n : Nat) : Bytes := [UInt8.ofNat (n / 2 ^ 56), UInt8.ofNat (n / 2 ^ 48), UInt8.ofNat (n / 2 ^ 40), UInt8.ofNat (n / 2 ^ 32), UInt8.ofNat (n / 2 ^ 24), UInt8.ofNat (n / 2 ^ 16), UInt8.ofNat (n / 2 ^ 8), UInt8.ofNat n]
def zerosFor (n : Nat) : Nat := (119 - n % 64) % 64
def filled (t : Bytes) : Bytes := t ++ ([128] ++ List.replicate (zerosFor t.length) 0) ++ be8 (8 * t.length)
theorem filled_len (t : Bytes) : (filled t).length % 64 = 0 := by
  simp [filled, be8, zerosFor]; omega
def be4w (x : Nat) : Bytes := [UInt8.ofNat (x / 2 ^ 24), UInt8.ofNat (x / 2 ^ 16), UInt8.ofNat (x / 2 ^ 8), UInt8.ofNat x]
/-- The digest. -/
def shaB (t : Bytes) : Bytes := ((hashN (filled t) ((filled t).length / 64)).map be4w).flatten
theorem shaB_len (t : Bytes) : (shaB t).length = 32 := by
  have h := hashN_len (filled t) ((filled t).length / 64)
  have key : ∀ l : List Nat, ((l.map be4w).flatten).length = 4 * l.length := by
    intro l
    induction l with
    | nil => rfl
    | cons x r ih => simp only [List.map_cons, List.flatten_cons, List.length_append, ih, be4w, List.length_cons, List.length_nil]; omega
  unfold shaB
  rw [key, h]
def key64 (key : Bytes) : Bytes := (if 64 < key.length then shaB key else key) ++ List.replicate (64 - (if 64 < key.length then shaB key else key).length) 0
def macB (key text : Bytes) : Bytes := shaB ((key64 key).map (fun c => c ^^^ 0x5c) ++ shaB ((key64 key).map (fun c => c ^^^ 0x36) ++ text))
theorem macB_len (key text : Bytes) : (macB key text).length = 32 := shaB_len _
end Go.Proofs.YtkncpdehgcldbaaDoor
