/- Package tag. -/
import Derived.Test.YtklppplnkpnbhaaDoorShaL
import Derived.Test.YtklppplnkpnbhaaDoorPack
import Derived.Test.YtklppplnkpnbhaaDoorArrays
namespace Go.Proofs.YtklppplnkpnbhaaDoor
open Go Go.Eng Go.Proofs

def u32V (n : Nat) : Value := .int .u32 n
theorem rot_eq (x n : Nat) (hx : x < 4294967296) (h1 : 1 ≤ n) (h2 : n ≤ 31) :
    orI .u32 (IntKind.u32.wrap ((x : Int) * 2 ^ (32 - n))) ((x : Int).fdiv (2 ^ n)) = (rotr n x : Int) := by
  have hP : 0 < (2 : Nat) ^ n := Nat.pow_pos (by omega)
  have hpm : (2 : Nat) ^ n * 2 ^ (32 - n) = 4294967296 := by rw [← Nat.pow_add, show n + (32 - n) = 32 by omega]
  have e1 : (x : Int) * 2 ^ (32 - n) = ((x * 2 ^ (32 - n) : Nat) : Int) := by simp
  rw [e1, wrapU .u32 rfl, fdivP]
  have e2 : x * 2 ^ (32 - n) % 2 ^ IntKind.u32.bits = x % 2 ^ n * 2 ^ (32 - n) := by
    show x * 2 ^ (32 - n) % 4294967296 = _
    rw [← hpm, Nat.mul_mod_mul_right]
  have h4 : x / 2 ^ n < 2 ^ (32 - n) := by
    rw [Nat.div_lt_iff_lt_mul hP, Nat.mul_comm, hpm]; exact hx
  have h5 : x % 2 ^ n * 2 ^ (32 - n) < 4294967296 := by
    have : x % 2 ^ n < 2 ^ n := Nat.mod_lt _ hP
    rw [← hpm]; exact Nat.mul_lt_mul_of_pos_right this (Nat.pow_pos (by omega))
  rw [e2, orU .u32 rfl _ _ h5 (Nat.lt_of_le_of_lt (Nat.div_le_self _ _) hx), or_add _ _ _ h4]
  unfold rotr
  congr 1; omega
theorem turn_spec {w : World} (x n : Nat) (hx : x < 4294967296) (h1 : 1 ≤ n) (h2 : n ≤ 31) : Cl Tryd.prog f_tag_turn [u32V x, .int .i64 n] w fun v w' => v = u32V (rotr n x) ∧ St w [] [] w' := by
  have hS := St.start w
  refine en_tag_turn rfl ?_
  unfold u32V
  repeat (first | refine SemW.run tblOk ?_ | refine IntG.nw (by omega) ?_ | refine IntG.nu8 (by omega) ?_ | refine IntG.nu32 (by omega) ?_ | refine IntG.nu64 (by omega) ?_ | refine IntG.wr' rfl ?_ | refine Chk.mk (by omega) ?_ | (refine BrG.id ?_; first | with_reducible refine BrG.t ?_ | with_reducible refine BrG.f ?_ | with_reducible refine BrG.notG ?_ | with_reducible refine BrG.nn ?_ | with_reducible refine BrG.ns ?_ | refine BrG.pos (by omega) ?_ | refine BrG.neg (by omega) ?_ | with_reducible refine BrG.pos rfl ?_ | refine BrG.pos (by assumption) ?_ | refine BrG.neg (by assumption) ?_ | refine BrG.pos (by decide) ?_ | refine BrG.neg (by decide) ?_) | refine Chk.mk (ptr_ok tblOk rfl rfl) ?_ | refine Chk.mk (by decide) ?_)
  refine Cl.mono (P := Tryd.prog) (R := fun v w' => v = u32V (rotr n x) ∧ St w [] [] w') ?_ ?_
  · refine en_math_bits_RotateLeft32 rfl ?_
    repeat (first | refine SemW.run tblOk ?_ | refine IntG.nw (by omega) ?_ | refine IntG.nu8 (by omega) ?_ | refine IntG.nu32 (by omega) ?_ | refine IntG.nu64 (by omega) ?_ | refine IntG.wr' rfl ?_ | refine Chk.mk (by omega) ?_ | (refine BrG.id ?_; first | with_reducible refine BrG.t ?_ | with_reducible refine BrG.f ?_ | with_reducible refine BrG.notG ?_ | with_reducible refine BrG.nn ?_ | with_reducible refine BrG.ns ?_ | refine BrG.pos (by omega) ?_ | refine BrG.neg (by omega) ?_ | with_reducible refine BrG.pos rfl ?_ | refine BrG.pos (by assumption) ?_ | refine BrG.neg (by assumption) ?_ | refine BrG.pos (by decide) ?_ | refine BrG.neg (by decide) ?_) | refine Chk.mk (ptr_ok tblOk rfl rfl) ?_ | refine Chk.mk (by decide) ?_)
    have key : ∀ i : Fin 32, 1 ≤ i.val → andI .u64 (IntKind.u64.wrap (0 - ((i.val : Nat) : Int))) 31 = ((32 - i.val : Nat) : Int) := by decide +kernel
    have hk := key ⟨n, by omega⟩ h1
    simp only at hk
    rw [hk]
    repeat (first | refine SemW.run tblOk ?_ | refine IntG.nw (by omega) ?_ | refine IntG.nu8 (by omega) ?_ | refine IntG.nu32 (by omega) ?_ | refine IntG.nu64 (by omega) ?_ | refine IntG.wr' rfl ?_ | refine Chk.mk (by omega) ?_ | (refine BrG.id ?_; first | with_reducible refine BrG.t ?_ | with_reducible refine BrG.f ?_ | with_reducible refine BrG.notG ?_ | with_reducible refine BrG.nn ?_ | with_reducible refine BrG.ns ?_ | refine BrG.pos (by omega) ?_ | refine BrG.neg (by omega) ?_ | with_reducible refine BrG.pos rfl ?_ | refine BrG.pos (by assumption) ?_ | refine BrG.neg (by assumption) ?_ | refine BrG.pos (by decide) ?_ | refine BrG.neg (by decide) ?_) | refine Chk.mk (ptr_ok tblOk rfl rfl) ?_ | refine Chk.mk (by decide) ?_)
    have h6 := rot_eq x n hx h1 h2
    have e1 : min ((32 - n : Nat) : Int).toNat IntKind.u32.bits = 32 - n := by show min _ 32 = _; omega
    have e2 : min (32 - ((32 - n : Nat) : Int)).toNat IntKind.u32.bits = n := by show min _ 32 = _; omega
    refine ⟨congrArg (Value.int .u32) ?_, hS⟩
    rw [e1, e2]; exact h6
  · rintro _ w1 ⟨rfl, hS⟩
    repeat (first | refine SemW.run tblOk ?_ | refine IntG.nw (by omega) ?_ | refine IntG.nu8 (by omega) ?_ | refine IntG.nu32 (by omega) ?_ | refine IntG.nu64 (by omega) ?_ | refine IntG.wr' rfl ?_ | refine Chk.mk (by omega) ?_ | (refine BrG.id ?_; first | with_reducible refine BrG.t ?_ | with_reducible refine BrG.f ?_ | with_reducible refine BrG.notG ?_ | with_reducible refine BrG.nn ?_ | with_reducible refine BrG.ns ?_ | refine BrG.pos (by omega) ?_ | refine BrG.neg (by omega) ?_ | with_reducible refine BrG.pos rfl ?_ | refine BrG.pos (by assumption) ?_ | refine BrG.neg (by assumption) ?_ | refine BrG.pos (by decide) ?_ | refine BrG.neg (by decide) ?_) | refine Chk.mk (ptr_ok tblOk rfl rfl) ?_ | refine Chk.mk (by decide) ?_)
    exact ⟨rfl, hS⟩

theorem u32wrap' (n : Nat) (h : n < 4294967296) : IntKind.u32.wrap (n : Int) = (n : Int) := by
  rw [wrapU .u32 rfl]; congr 1; exact Nat.mod_eq_of_lt h
theorem word_eq (a b c d : Nat) (ha : a < 256) (hb : b < 256) (hc : c < 256) (hd : d < 256) : orI .u32 (orI .u32 (orI .u32 (IntKind.u32.wrap (IntKind.u32.wrap (a : Int) * 2 ^ 24)) (IntKind.u32.wrap (IntKind.u32.wrap (b : Int) * 2 ^ 16)))
    (IntKind.u32.wrap (IntKind.u32.wrap (c : Int) * 2 ^ 8))) (IntKind.u32.wrap (d : Int)) = ((((a * 16777216 + b * 65536) + c * 256 + d : Nat)) : Int) := by
  rw [u32wrap' a (by omega), u32wrap' b (by omega), u32wrap' c (by omega), u32wrap' d (by omega)]
  rw [show (a : Int) * 2 ^ 24 = ((a * 2 ^ 24 : Nat) : Int) by simp, show (b : Int) * 2 ^ 16 = ((b * 2 ^ 16 : Nat) : Int) by simp, show (c : Int) * 2 ^ 8 = ((c * 2 ^ 8 : Nat) : Int) by simp]
  rw [u32wrap' _ (by omega), u32wrap' _ (by omega), u32wrap' _ (by omega)]
  rw [orU .u32 rfl _ _ (by show _ < 2 ^ 32; omega) (by show _ < 2 ^ 32; omega), or_add a (b * 2 ^ 16) 24 (by omega)]
  rw [orU .u32 rfl _ _ (by show _ < 2 ^ 32; omega) (by show _ < 2 ^ 32; omega), show a * 2 ^ 24 + b * 2 ^ 16 = (a * 2 ^ 8 + b) * 2 ^ 16 by omega, or_add _ (c * 2 ^ 8) 16 (by omega)]
  rw [orU .u32 rfl _ _ (by show _ < 2 ^ 32; omega) (by show _ < 2 ^ 32; omega), show (a * 2 ^ 8 + b) * 2 ^ 16 + c * 2 ^ 8 = ((a * 2 ^ 8 + b) * 2 ^ 8 + c) * 2 ^ 8 by omega, or_add _ d 8 (by omega)]
theorem sg_eq (r1 r2 x k : Nat) (h1 : r1 < 4294967296) (h2 : r2 < 4294967296) (hx : x < 4294967296) : xorI .u32 (xorI .u32 (r1 : Int) (r2 : Int)) ((x : Int).fdiv (2 ^ k)) = ((r1 ^^^ r2 ^^^ x / 2 ^ k : Nat) : Int) := by
  rw [xorU .u32 rfl _ _ h1 h2, fdivP, xorU .u32 rfl _ _ (Nat.xor_lt_two_pow (n := 32) h1 h2) (Nat.lt_of_le_of_lt (Nat.div_le_self _ _) hx)]
theorem wv_eq (a b c d : Nat) : IntKind.u32.wrap (IntKind.u32.wrap (IntKind.u32.wrap ((a : Int) + (b : Int)) + (c : Int)) + (d : Int)) = (((a + b + c + d) % p32 : Nat) : Int) := by
  rw [show (a : Int) + (b : Int) = ((a + b : Nat) : Int) by omega, wrapU .u32 rfl, show ((((a + b) % 2 ^ IntKind.u32.bits : Nat)) : Int) + (c : Int) = (((a + b) % 2 ^ IntKind.u32.bits + c : Nat) : Int) by omega, wrapU .u32 rfl,
    show (((((a + b) % 2 ^ IntKind.u32.bits + c) % 2 ^ IntKind.u32.bits : Nat)) : Int) + (d : Int) = ((((a + b) % 2 ^ IntKind.u32.bits + c) % 2 ^ IntKind.u32.bits + d : Nat) : Int) by omega, wrapU .u32 rfl]
  congr 1
  show ((((a + b) % 4294967296 + c) % 4294967296) + d) % 4294967296 = (a + b + c + d) % 4294967296
  omega
theorem getD_lt (l : List Nat) (h : ∀ x ∈ l, x < p32) (i : Nat) : l.getD i 0 < 4294967296 := by
  by_cases hi : i < l.length
  · have : l.getD i 0 = l[i] := by simp [hi]
    rw [this]; exact h _ (List.getElem_mem hi)
  · have : l.getD i 0 = 0 := by simp [show l.length ≤ i by omega]
    rw [this]; omega
def wsC (ws : List Nat) : List Value := ws.map u32V ++ List.replicate (64 - ws.length) (u32V 0)
theorem wsC_len (ws : List Nat) (h : ws.length ≤ 64) : (wsC ws).length = 64 := by simp [wsC]; omega
theorem wsC_set (ws : List Nat) (x : Nat) (h : ws.length < 64) : (wsC ws).set ws.length (u32V x) = wsC (ws ++ [x]) := by
  unfold wsC
  obtain ⟨m, hm⟩ : ∃ m, 64 - ws.length = m + 1 := ⟨63 - ws.length, by omega⟩
  rw [hm, List.set_append_right _ _ (by simp)]
  simp only [List.length_map, Nat.sub_self, List.replicate_succ, List.set_cons_zero, List.map_append, List.map_cons, List.map_nil, List.length_append, List.length_singleton]
  rw [show 64 - (ws.length + 1) = m by omega]
  simp
theorem wsC_get (ws : List Nat) (i : Nat) (h : i < ws.length) : (wsC ws)[i]? = some (u32V (ws.getD i 0)) := by
  unfold wsC
  rw [List.getElem?_append_left (by simpa using h)]
  simp [h]
/-- The digest's cells: H, the constants, what is left over, the count. -/
def digC (h : List Nat) (tail : List Value) : Obj := .cells ⟨h.map u32V ++ (kList.map u32V ++ tail)⟩ T_tag_digest (0, 0)
abbrev kP (B : Nat) : Value := .pointer (some ⟨B, 8, none⟩)

theorem rotr_lt' (n x : Nat) (hx : x < 4294967296) (h : n ≤ 32) : rotr n x < 4294967296 := rotr_lt n x h hx
theorem notI_u32 (a : Nat) (ha : a < 4294967296) : xorI .u32 4294967295 (a : Int) = ((p32 - 1 - a : Nat) : Int) := by
  have h := xorU .u32 rfl 4294967295 a (by decide) ha
  have : 4294967295 ^^^ a = p32 - 1 - a := by
    have h1 : (BitVec.allOnes 32 ^^^ BitVec.ofNat 32 a).toNat = 4294967295 ^^^ a := by
      rw [BitVec.toNat_xor, BitVec.toNat_allOnes, BitVec.toNat_ofNat, Nat.mod_eq_of_lt ha]
    rw [← h1, BitVec.allOnes_xor, BitVec.toNat_not, BitVec.toNat_ofNat, Nat.mod_eq_of_lt ha]; rfl
  rw [← this]; exact h
theorem wadd (a b : Nat) : IntKind.u32.wrap ((a : Int) + (b : Int)) = (((a + b) % p32 : Nat) : Int) := by
  rw [show (a : Int) + (b : Int) = ((a + b : Nat) : Int) by omega, wrapU .u32 rfl]; rfl
theorem xor3 (a b c : Nat) (ha : a < 4294967296) (hb : b < 4294967296) (hc : c < 4294967296) : xorI .u32 (xorI .u32 (a : Int) (b : Int)) (c : Int) = ((a ^^^ b ^^^ c : Nat) : Int) := by
  rw [xorU .u32 rfl _ _ ha hb, xorU .u32 rfl _ _ (Nat.xor_lt_two_pow (n := 32) ha hb) hc]
theorem t1_eq (hh r E F G k w : Nat) (_hh : hh < 4294967296) (hE : E < 4294967296) (hF : F < 4294967296) (hG : G < 4294967296) :
    IntKind.u32.wrap (IntKind.u32.wrap (IntKind.u32.wrap (IntKind.u32.wrap ((hh : Int) + (r : Int)) + xorI .u32 (andI .u32 (E : Int) (F : Int)) (andI .u32 (xorI .u32 4294967295 (E : Int)) (G : Int))) + (k : Int)) + (w : Int)) =
      (((hh + r + ((E &&& F) ^^^ (nt E &&& G)) + k + w) % p32 : Nat) : Int) := by
  rw [notI_u32 E hE, andU .u32 rfl _ _ hE hF, andU .u32 rfl _ _ (show p32 - 1 - E < 4294967296 by unfold p32; omega) hG,
    xorU .u32 rfl _ _ (Nat.and_lt_two_pow (n := 32) _ hF) (Nat.and_lt_two_pow (n := 32) _ hG)]
  rw [wadd, wadd, wadd, wadd]
  congr 1
  show (((((hh + r) % 4294967296 + _) % 4294967296 + k) % 4294967296) + w) % 4294967296 = (hh + r + ((E &&& F) ^^^ (nt E &&& G)) + k + w) % 4294967296
  unfold nt
  omega
theorem t2_eq (r A Bv C : Nat) (hA : A < 4294967296) (hB : Bv < 4294967296) (hC : C < 4294967296) :
    IntKind.u32.wrap ((r : Int) + xorI .u32 (xorI .u32 (andI .u32 (A : Int) (Bv : Int)) (andI .u32 (A : Int) (C : Int))) (andI .u32 (Bv : Int) (C : Int))) =
      (((r + ((A &&& Bv) ^^^ (A &&& C) ^^^ (Bv &&& C))) % p32 : Nat) : Int) := by
  rw [andU .u32 rfl _ _ hA hB, andU .u32 rfl _ _ hA hC, andU .u32 rfl _ _ hB hC, xor3 _ _ _ (Nat.and_lt_two_pow (n := 32) _ hB) (Nat.and_lt_two_pow (n := 32) _ hC) (Nat.and_lt_two_pow (n := 32) _ hC), wadd]
theorem eight (v : List Nat) (h : v.length = 8) : ∃ a b c d e f g i, v = [a, b, c, d, e, f, g, i] := by
  match v, h with
  | [a, b, c, d, e, f, g, i], _ => exact ⟨a, b, c, d, e, f, g, i, rfl⟩
theorem rounds_len (v w : List Nat) (h : v.length = 8) : ∀ n, (rounds v w n).length = 8
  | 0 => h
  | _ + 1 => rfl
theorem rounds_lt (v w : List Nat) (h : ∀ x ∈ v, x < p32) : ∀ n, ∀ x ∈ rounds v w n, x < p32
  | 0, x, hx => h x hx
  | n + 1, x, hx => by
    have ih := rounds_lt v w h n
    have hm : ∀ y, y % p32 < p32 := fun y => Nat.mod_lt _ (by decide)
    have hg := fun i => getD_lt _ ih i
    simp only [rounds, roundM, List.mem_cons, List.mem_nil_iff, or_false] at hx
    rcases hx with rfl | rfl | rfl | rfl | rfl | rfl | rfl | rfl
    · exact hm _
    · exact hg _
    · exact hg _
    · exact hg _
    · exact hm _
    · exact hg _
    · exact hg _
    · exact hg _
theorem k_get (hs : List Nat) (tail : List Value) (h : hs.length = 8) (i : Nat) (hi : i < 64) : (hs.map u32V ++ (kList.map u32V ++ tail))[8 + i]? = some (u32V (kList.getD i 0)) := by
  have hk : kList.length = 64 := by decide
  rw [List.getElem?_append_right (by simp; omega), List.length_map, h, show 8 + i - 8 = i by omega, List.getElem?_append_left (by simp; omega), List.getElem?_map]
  simp [show i < kList.length by omega]
theorem k_lt (i : Nat) : kList.getD i 0 < 4294967296 := getD_lt _ (by
  have : kList.all (fun x => decide (x < p32)) = true := by decide
  exact fun x hx => of_decide_eq_true (List.all_eq_true.1 this x hx)) i
def hp (h v : List Nat) (n : Nat) : List Nat := (List.range 8).map fun j => if j < n then (h.getD j 0 + v.getD j 0) % p32 else h.getD j 0
theorem hp_get (h v : List Nat) (n : Nat) (hn : n < 8) (rest : List Value) : ((hp h v n).map u32V ++ rest)[n]? = some (u32V (h.getD n 0)) := by
  match n, hn with
  | 0, _ => rfl
  | 1, _ => rfl
  | 2, _ => rfl
  | 3, _ => rfl
  | 4, _ => rfl
  | 5, _ => rfl
  | 6, _ => rfl
  | 7, _ => rfl
theorem hp_set (h v : List Nat) (n : Nat) (hn : n < 8) (rest : List Value) : ((hp h v n).map u32V ++ rest).set n (u32V ((h.getD n 0 + v.getD n 0) % p32)) = (hp h v (n + 1)).map u32V ++ rest := by
  match n, hn with
  | 0, _ => rfl
  | 1, _ => rfl
  | 2, _ => rfl
  | 3, _ => rfl
  | 4, _ => rfl
  | 5, _ => rfl
  | 6, _ => rfl
  | 7, _ => rfl
set_option maxHeartbeats 4000000 in
set_option maxRecDepth 10000 in
theorem block_spec {w : World} {B : Nat} {h : List Nat} {tail : List Value} (hlen : h.length = 8) (hlt : ∀ x ∈ h, x < p32) (hh : Holds [(B, digC h tail)] w) {a : Option Addr} {cap : Nat} {b : Bytes} (ha : Arr w [B] a (b.map byteV)) (hb : b.length = 64) :
    Cl Tryd.prog f_tag_state_block [ptr B, kP B, .slice a 64 cap] w fun _ w' => St w [B] [(B, digC (stepM h b) tail)] w' := by
  have hS : St w [B] [(B, digC h tail)] w := St.enter hh
  obtain ⟨g, off, rfl, hgB, -⟩ := ha.get (j := 0) (by simp; omega)
  have hcell : ∀ j, j < 64 → w.cell? ⟨g, off + j, none⟩ = some (byteV (b.getD j 0)) := by
    intro j hj
    obtain ⟨g', off', h1, -, h2⟩ := ha.get (j := j) (by simp; omega)
    simp only [Option.some.injEq, Addr.mk.injEq, and_true] at h1
    obtain ⟨rfl, rfl⟩ := h1
    rw [h2]
    simp [show j < b.length by omega]
  refine en_tag_state_block rfl ?_
  repeat (first | refine SemW.run tblOk ?_ | refine IntG.nw (by omega) ?_ | refine IntG.nu8 (by omega) ?_ | refine IntG.nu32 (by omega) ?_ | refine IntG.nu64 (by omega) ?_ | refine IntG.wr' rfl ?_ | refine Chk.mk (by omega) ?_ | (refine BrG.id ?_; first | with_reducible refine BrG.t ?_ | with_reducible refine BrG.f ?_ | with_reducible refine BrG.notG ?_ | with_reducible refine BrG.nn ?_ | with_reducible refine BrG.ns ?_ | refine BrG.pos (by omega) ?_ | refine BrG.neg (by omega) ?_ | with_reducible refine BrG.pos rfl ?_ | refine BrG.pos (by assumption) ?_ | refine BrG.neg (by assumption) ?_ | refine BrG.pos (by decide) ?_ | refine BrG.neg (by decide) ?_) | refine Chk.mk (ptr_ok tblOk rfl rfl) ?_ | refine Chk.mk (by decide) ?_)
  refine hS.al ?_
  intro wb w1 _ hS
  have hS : St w [B] ((wb, .cells ⟨wsC []⟩ T_64_uint32 (0, 0)) :: (B, digC h tail) :: []) _ := hS
  repeat (first | refine SemW.run tblOk ?_ | refine IntG.nw (by omega) ?_ | refine IntG.nu8 (by omega) ?_ | refine IntG.nu32 (by omega) ?_ | refine IntG.nu64 (by omega) ?_ | refine IntG.wr' rfl ?_ | refine Chk.mk (by omega) ?_ | (refine BrG.id ?_; first | with_reducible refine BrG.t ?_ | with_reducible refine BrG.f ?_ | with_reducible refine BrG.notG ?_ | with_reducible refine BrG.nn ?_ | with_reducible refine BrG.ns ?_ | refine BrG.pos (by omega) ?_ | refine BrG.neg (by omega) ?_ | with_reducible refine BrG.pos rfl ?_ | refine BrG.pos (by assumption) ?_ | refine BrG.neg (by assumption) ?_ | refine BrG.pos (by decide) ?_ | refine BrG.neg (by decide) ?_) | refine Chk.mk (ptr_ok tblOk rfl rfl) ?_ | refine Chk.mk (by decide) ?_)
  refine SemW.loop (fun i : Nat => [(0, ptr B), (1, kP B), (2, .slice (some ⟨g, off, none⟩) 64 cap), (6, ptr wb), (19, .int .i64 i)])
    (fun i w' => i ≤ 16 ∧ St w [B] ((wb, .cells ⟨wsC ((List.range i).map (wordAt b))⟩ T_64_uint32 (0, 0)) :: (B, digC h tail) :: []) w') (fun i => 16 - i) 0
    ⟨rfl, rfl, rfl, rfl, rfl, trivial⟩ ⟨Nat.zero_le _, hS⟩ ?_
  rintro i w2 ⟨hi, hS⟩
  by_cases hil : i < 16
  · repeat (first | refine SemW.run tblOk ?_ | refine IntG.nw (by omega) ?_ | refine IntG.nu8 (by omega) ?_ | refine IntG.nu32 (by omega) ?_ | refine IntG.nu64 (by omega) ?_ | refine IntG.wr' rfl ?_ | refine Chk.mk (by omega) ?_ | (refine BrG.id ?_; first | with_reducible refine BrG.t ?_ | with_reducible refine BrG.f ?_ | with_reducible refine BrG.notG ?_ | with_reducible refine BrG.nn ?_ | with_reducible refine BrG.ns ?_ | refine BrG.pos (by omega) ?_ | refine BrG.neg (by omega) ?_ | with_reducible refine BrG.pos rfl ?_ | refine BrG.pos (by assumption) ?_ | refine BrG.neg (by assumption) ?_ | refine BrG.pos (by decide) ?_ | refine BrG.neg (by decide) ?_) | refine Chk.mk (ptr_ok tblOk rfl rfl) ?_ | refine Chk.mk (by decide) ?_)
    refine SemW.draw tblOk mixed (fun w' => St w [B] ((wb, .cells ⟨wsC ((List.range i).map (wordAt b))⟩ T_64_uint32 (0, 0)) :: (B, digC h tail) :: []) w') [35] [0, 1, 2, 3, 4, 5, 6, 7, 8, 9, 10, 11, 12, 13, 14, 15, 16, 17, 18, 19, 20, 21, 22, 23, 24, 25, 26, 27, 28, 29, 30, 31, 32, 33, 34, 35] (by kernel_rfl) hS.drew ?_
    have hS := hS.drew
    repeat (first | refine SemW.run tblOk ?_ | refine IntG.nw (by omega) ?_ | refine IntG.nu8 (by omega) ?_ | refine IntG.nu32 (by omega) ?_ | refine IntG.nu64 (by omega) ?_ | refine IntG.wr' rfl ?_ | refine Chk.mk (by omega) ?_ | (refine BrG.id ?_; first | with_reducible refine BrG.t ?_ | with_reducible refine BrG.f ?_ | with_reducible refine BrG.notG ?_ | with_reducible refine BrG.nn ?_ | with_reducible refine BrG.ns ?_ | refine BrG.pos (by omega) ?_ | refine BrG.neg (by omega) ?_ | with_reducible refine BrG.pos rfl ?_ | refine BrG.pos (by assumption) ?_ | refine BrG.neg (by assumption) ?_ | refine BrG.pos (by decide) ?_ | refine BrG.neg (by decide) ?_) | refine Chk.mk (ptr_ok tblOk rfl rfl) ?_ | refine Chk.mk (by decide) ?_ | refine hS.ldC rfl ?_ | refine hS.ldnC rfl ?_)
    refine hS.ldOldC hgB (by rw [show (4 * (i : Int)).toNat * 1 = 4 * i by omega]; exact hcell (4 * i) (by omega)) ?_
    repeat (first | refine SemW.run tblOk ?_ | refine IntG.nw (by omega) ?_ | refine IntG.nu8 (by omega) ?_ | refine IntG.nu32 (by omega) ?_ | refine IntG.nu64 (by omega) ?_ | refine IntG.wr' rfl ?_ | refine Chk.mk (by omega) ?_ | (refine BrG.id ?_; first | with_reducible refine BrG.t ?_ | with_reducible refine BrG.f ?_ | with_reducible refine BrG.notG ?_ | with_reducible refine BrG.nn ?_ | with_reducible refine BrG.ns ?_ | refine BrG.pos (by omega) ?_ | refine BrG.neg (by omega) ?_ | with_reducible refine BrG.pos rfl ?_ | refine BrG.pos (by assumption) ?_ | refine BrG.neg (by assumption) ?_ | refine BrG.pos (by decide) ?_ | refine BrG.neg (by decide) ?_) | refine Chk.mk (ptr_ok tblOk rfl rfl) ?_ | refine Chk.mk (by decide) ?_ | refine hS.ldC rfl ?_ | refine hS.ldnC rfl ?_)
    refine hS.ldOldC hgB (by rw [show (4 * (i : Int) + 1).toNat * 1 = 4 * i + 1 by omega]; exact hcell (4 * i + 1) (by omega)) ?_
    repeat (first | refine SemW.run tblOk ?_ | refine IntG.nw (by omega) ?_ | refine IntG.nu8 (by omega) ?_ | refine IntG.nu32 (by omega) ?_ | refine IntG.nu64 (by omega) ?_ | refine IntG.wr' rfl ?_ | refine Chk.mk (by omega) ?_ | (refine BrG.id ?_; first | with_reducible refine BrG.t ?_ | with_reducible refine BrG.f ?_ | with_reducible refine BrG.notG ?_ | with_reducible refine BrG.nn ?_ | with_reducible refine BrG.ns ?_ | refine BrG.pos (by omega) ?_ | refine BrG.neg (by omega) ?_ | with_reducible refine BrG.pos rfl ?_ | refine BrG.pos (by assumption) ?_ | refine BrG.neg (by assumption) ?_ | refine BrG.pos (by decide) ?_ | refine BrG.neg (by decide) ?_) | refine Chk.mk (ptr_ok tblOk rfl rfl) ?_ | refine Chk.mk (by decide) ?_ | refine hS.ldC rfl ?_ | refine hS.ldnC rfl ?_)
    refine hS.ldOldC hgB (by rw [show (4 * (i : Int) + 2).toNat * 1 = 4 * i + 2 by omega]; exact hcell (4 * i + 2) (by omega)) ?_
    repeat (first | refine SemW.run tblOk ?_ | refine IntG.nw (by omega) ?_ | refine IntG.nu8 (by omega) ?_ | refine IntG.nu32 (by omega) ?_ | refine IntG.nu64 (by omega) ?_ | refine IntG.wr' rfl ?_ | refine Chk.mk (by omega) ?_ | (refine BrG.id ?_; first | with_reducible refine BrG.t ?_ | with_reducible refine BrG.f ?_ | with_reducible refine BrG.notG ?_ | with_reducible refine BrG.nn ?_ | with_reducible refine BrG.ns ?_ | refine BrG.pos (by omega) ?_ | refine BrG.neg (by omega) ?_ | with_reducible refine BrG.pos rfl ?_ | refine BrG.pos (by assumption) ?_ | refine BrG.neg (by assumption) ?_ | refine BrG.pos (by decide) ?_ | refine BrG.neg (by decide) ?_) | refine Chk.mk (ptr_ok tblOk rfl rfl) ?_ | refine Chk.mk (by decide) ?_ | refine hS.ldC rfl ?_ | refine hS.ldnC rfl ?_)
    refine hS.ldOldC hgB (by rw [show (4 * (i : Int) + 3).toNat * 1 = 4 * i + 3 by omega]; exact hcell (4 * i + 3) (by omega)) ?_
    repeat (first | refine SemW.run tblOk ?_ | refine IntG.nw (by omega) ?_ | refine IntG.nu8 (by omega) ?_ | refine IntG.nu32 (by omega) ?_ | refine IntG.nu64 (by omega) ?_ | refine IntG.wr' rfl ?_ | refine Chk.mk (by omega) ?_ | (refine BrG.id ?_; first | with_reducible refine BrG.t ?_ | with_reducible refine BrG.f ?_ | with_reducible refine BrG.notG ?_ | with_reducible refine BrG.nn ?_ | with_reducible refine BrG.ns ?_ | refine BrG.pos (by omega) ?_ | refine BrG.neg (by omega) ?_ | with_reducible refine BrG.pos rfl ?_ | refine BrG.pos (by assumption) ?_ | refine BrG.neg (by assumption) ?_ | refine BrG.pos (by decide) ?_ | refine BrG.neg (by decide) ?_) | refine Chk.mk (ptr_ok tblOk rfl rfl) ?_ | refine Chk.mk (by decide) ?_ | refine hS.ldC rfl ?_ | refine hS.ldnC rfl ?_)
    refine hS.stI rfl (by rw [wsC_len _ (by simp; omega)]; omega) ?_
    intro w3 hS
    have hwd := word_eq _ _ _ _ (b.getD (4 * i) 0).toNat_lt (b.getD (4 * i + 1) 0).toNat_lt (b.getD (4 * i + 2) 0).toNat_lt (b.getD (4 * i + 3) 0).toNat_lt
    have hst := wsC_set ((List.range i).map (wordAt b)) (wordAt b i) (by simp; omega)
    have hrl : ((List.range i).map (wordAt b)).length = i := by simp
    rw [hrl] at hst
    have hS : St w [B] ((wb, .cells ⟨wsC ((List.range (i + 1)).map (wordAt b))⟩ T_64_uint32 (0, 0)) :: (B, digC h tail) :: []) w3 := by
      rw [List.range_succ, List.map_append, List.map_cons, List.map_nil, ← hst]
      have e0 : 0 + ((i : Int)).toNat * 1 = i := by omega
      rw [e0] at hS
      have e1 : u32V (wordAt b i) = Value.int .u32 _ := (congrArg (Value.int .u32) hwd).symm
      rw [e1]
      exact hS
    repeat (first | refine SemW.run tblOk ?_ | refine IntG.nw (by omega) ?_ | refine IntG.nu8 (by omega) ?_ | refine IntG.nu32 (by omega) ?_ | refine IntG.nu64 (by omega) ?_ | refine IntG.wr' rfl ?_ | refine Chk.mk (by omega) ?_ | (refine BrG.id ?_; first | with_reducible refine BrG.t ?_ | with_reducible refine BrG.f ?_ | with_reducible refine BrG.notG ?_ | with_reducible refine BrG.nn ?_ | with_reducible refine BrG.ns ?_ | refine BrG.pos (by omega) ?_ | refine BrG.neg (by omega) ?_ | with_reducible refine BrG.pos rfl ?_ | refine BrG.pos (by assumption) ?_ | refine BrG.neg (by assumption) ?_ | refine BrG.pos (by decide) ?_ | refine BrG.neg (by decide) ?_) | refine Chk.mk (ptr_ok tblOk rfl rfl) ?_ | refine Chk.mk (by decide) ?_ | refine hS.ldC rfl ?_ | refine hS.ldnC rfl ?_)
    exact ⟨i + 1, ⟨rfl, rfl, rfl, rfl, rfl, trivial⟩, ⟨by omega, hS⟩, by omega⟩
  have hi16 : i = 16 := by omega
  subst hi16
  repeat (first | refine SemW.run tblOk ?_ | refine IntG.nw (by omega) ?_ | refine IntG.nu8 (by omega) ?_ | refine IntG.nu32 (by omega) ?_ | refine IntG.nu64 (by omega) ?_ | refine IntG.wr' rfl ?_ | refine Chk.mk (by omega) ?_ | (refine BrG.id ?_; first | with_reducible refine BrG.t ?_ | with_reducible refine BrG.f ?_ | with_reducible refine BrG.notG ?_ | with_reducible refine BrG.nn ?_ | with_reducible refine BrG.ns ?_ | refine BrG.pos (by omega) ?_ | refine BrG.neg (by omega) ?_ | with_reducible refine BrG.pos rfl ?_ | refine BrG.pos (by assumption) ?_ | refine BrG.neg (by assumption) ?_ | refine BrG.pos (by decide) ?_ | refine BrG.neg (by decide) ?_) | refine Chk.mk (ptr_ok tblOk rfl rfl) ?_ | refine Chk.mk (by decide) ?_)
  refine SemW.loop (fun n : Nat => [(0, ptr B), (1, kP B), (6, ptr wb), (8, .int .i64 (16 + n : Nat))])
    (fun n w' => n ≤ 48 ∧ St w [B] ((wb, .cells ⟨wsC (words b n)⟩ T_64_uint32 (0, 0)) :: (B, digC h tail) :: []) w') (fun n => 48 - n) 0
    ⟨rfl, rfl, rfl, rfl, trivial⟩ ⟨Nat.zero_le _, hS⟩ ?_
  rintro n w4 ⟨hn, hS⟩
  have hwl := words_len b n
  have hwt := words_lt b n
  by_cases hnl : n < 48
  · have hX := getD_lt _ hwt (n + 1)
    have hY := getD_lt _ hwt (n + 14)
    have g1 := wsC_get (words b n) (n + 1) (by omega)
    have g2 := wsC_get (words b n) (n + 14) (by omega)
    have g3 := wsC_get (words b n) n (by omega)
    have g4 := wsC_get (words b n) (n + 9) (by omega)
    have hst := wsC_set (words b n) (wNext (words b n) (16 + n)) (by omega)
    have hwn : wNext (words b n) (16 + n) = ((words b n).getD n 0 + (words b n).getD (n + 9) 0 + sg0 ((words b n).getD (n + 1) 0) + sg1 ((words b n).getD (n + 14) 0)) % p32 := by
      unfold wNext
      rw [show 16 + n - 16 = n by omega, show 16 + n - 7 = n + 9 by omega, show 16 + n - 15 = n + 1 by omega, show 16 + n - 2 = n + 14 by omega]
    generalize (words b n).getD (n + 1) 0 = X at hX g1 hwn
    generalize (words b n).getD (n + 14) 0 = Y at hY g2 hwn
    generalize (words b n).getD n 0 = W16 at g3 hwn
    generalize (words b n).getD (n + 9) 0 = W7 at g4 hwn
    repeat (first | refine SemW.run tblOk ?_ | refine IntG.nw (by omega) ?_ | refine IntG.nu8 (by omega) ?_ | refine IntG.nu32 (by omega) ?_ | refine IntG.nu64 (by omega) ?_ | refine IntG.wr' rfl ?_ | refine Chk.mk (by omega) ?_ | (refine BrG.id ?_; first | with_reducible refine BrG.t ?_ | with_reducible refine BrG.f ?_ | with_reducible refine BrG.notG ?_ | with_reducible refine BrG.nn ?_ | with_reducible refine BrG.ns ?_ | refine BrG.pos (by omega) ?_ | refine BrG.neg (by omega) ?_ | with_reducible refine BrG.pos rfl ?_ | refine BrG.pos (by assumption) ?_ | refine BrG.neg (by assumption) ?_ | refine BrG.pos (by decide) ?_ | refine BrG.neg (by decide) ?_) | refine Chk.mk (ptr_ok tblOk rfl rfl) ?_ | refine Chk.mk (by decide) ?_)
    refine SemW.draw tblOk mixed (fun w' => St w [B] ((wb, .cells ⟨wsC (words b n)⟩ T_64_uint32 (0, 0)) :: (B, digC h tail) :: []) w') [] [0, 1, 2, 3, 4, 5, 6, 7, 8, 9] (by kernel_rfl) hS.drew ?_
    have hS := hS.drew
    repeat (first | refine SemW.run tblOk ?_ | refine IntG.nw (by omega) ?_ | refine IntG.nu8 (by omega) ?_ | refine IntG.nu32 (by omega) ?_ | refine IntG.nu64 (by omega) ?_ | refine IntG.wr' rfl ?_ | refine Chk.mk (by omega) ?_ | (refine BrG.id ?_; first | with_reducible refine BrG.t ?_ | with_reducible refine BrG.f ?_ | with_reducible refine BrG.notG ?_ | with_reducible refine BrG.nn ?_ | with_reducible refine BrG.ns ?_ | refine BrG.pos (by omega) ?_ | refine BrG.neg (by omega) ?_ | with_reducible refine BrG.pos rfl ?_ | refine BrG.pos (by assumption) ?_ | refine BrG.neg (by assumption) ?_ | refine BrG.pos (by decide) ?_ | refine BrG.neg (by decide) ?_) | refine Chk.mk (ptr_ok tblOk rfl rfl) ?_ | refine Chk.mk (by decide) ?_ | refine hS.ldC rfl ?_ | refine hS.ldnC rfl ?_)
    refine hS.ldC (v := u32V X) (by rw [← g1]; congr 1; omega) ?_
    repeat (first | refine SemW.run tblOk ?_ | refine IntG.nw (by omega) ?_ | refine IntG.nu8 (by omega) ?_ | refine IntG.nu32 (by omega) ?_ | refine IntG.nu64 (by omega) ?_ | refine IntG.wr' rfl ?_ | refine Chk.mk (by omega) ?_ | (refine BrG.id ?_; first | with_reducible refine BrG.t ?_ | with_reducible refine BrG.f ?_ | with_reducible refine BrG.notG ?_ | with_reducible refine BrG.nn ?_ | with_reducible refine BrG.ns ?_ | refine BrG.pos (by omega) ?_ | refine BrG.neg (by omega) ?_ | with_reducible refine BrG.pos rfl ?_ | refine BrG.pos (by assumption) ?_ | refine BrG.neg (by assumption) ?_ | refine BrG.pos (by decide) ?_ | refine BrG.neg (by decide) ?_) | refine Chk.mk (ptr_ok tblOk rfl rfl) ?_ | refine Chk.mk (by decide) ?_ | refine hS.ldC rfl ?_ | refine hS.ldnC rfl ?_)
    refine hS.ldC (v := u32V Y) (by rw [← g2]; congr 1; omega) ?_
    repeat (first | refine SemW.run tblOk ?_ | refine IntG.nw (by omega) ?_ | refine IntG.nu8 (by omega) ?_ | refine IntG.nu32 (by omega) ?_ | refine IntG.nu64 (by omega) ?_ | refine IntG.wr' rfl ?_ | refine Chk.mk (by omega) ?_ | (refine BrG.id ?_; first | with_reducible refine BrG.t ?_ | with_reducible refine BrG.f ?_ | with_reducible refine BrG.notG ?_ | with_reducible refine BrG.nn ?_ | with_reducible refine BrG.ns ?_ | refine BrG.pos (by omega) ?_ | refine BrG.neg (by omega) ?_ | with_reducible refine BrG.pos rfl ?_ | refine BrG.pos (by assumption) ?_ | refine BrG.neg (by assumption) ?_ | refine BrG.pos (by decide) ?_ | refine BrG.neg (by decide) ?_) | refine Chk.mk (ptr_ok tblOk rfl rfl) ?_ | refine Chk.mk (by decide) ?_ | refine hS.ldC rfl ?_ | refine hS.ldnC rfl ?_)
    refine SemW.draw tblOk mixed (fun w' => St w [B] ((wb, .cells ⟨wsC (words b n)⟩ T_64_uint32 (0, 0)) :: (B, digC h tail) :: []) w') [29] [0, 1, 2, 3, 4, 5, 6, 7, 8, 9, 10, 12, 15, 16, 19, 21, 24, 25, 11, 13, 14, 17, 18, 20, 22, 23, 26, 27, 28, 29] (by kernel_rfl) hS.drew ?_
    have hS := hS.drew
    repeat (first | refine SemW.run tblOk ?_ | refine IntG.nw (by omega) ?_ | refine IntG.nu8 (by omega) ?_ | refine IntG.nu32 (by omega) ?_ | refine IntG.nu64 (by omega) ?_ | refine IntG.wr' rfl ?_ | refine Chk.mk (by omega) ?_ | (refine BrG.id ?_; first | with_reducible refine BrG.t ?_ | with_reducible refine BrG.f ?_ | with_reducible refine BrG.notG ?_ | with_reducible refine BrG.nn ?_ | with_reducible refine BrG.ns ?_ | refine BrG.pos (by omega) ?_ | refine BrG.neg (by omega) ?_ | with_reducible refine BrG.pos rfl ?_ | refine BrG.pos (by assumption) ?_ | refine BrG.neg (by assumption) ?_ | refine BrG.pos (by decide) ?_ | refine BrG.neg (by decide) ?_) | refine Chk.mk (ptr_ok tblOk rfl rfl) ?_ | refine Chk.mk (by decide) ?_ | refine hS.ldC rfl ?_ | refine hS.ldnC rfl ?_)
    refine hS.ldC (v := u32V W16) (by rw [← g3]; congr 1; omega) ?_
    repeat (first | refine SemW.run tblOk ?_ | refine IntG.nw (by omega) ?_ | refine IntG.nu8 (by omega) ?_ | refine IntG.nu32 (by omega) ?_ | refine IntG.nu64 (by omega) ?_ | refine IntG.wr' rfl ?_ | refine Chk.mk (by omega) ?_ | (refine BrG.id ?_; first | with_reducible refine BrG.t ?_ | with_reducible refine BrG.f ?_ | with_reducible refine BrG.notG ?_ | with_reducible refine BrG.nn ?_ | with_reducible refine BrG.ns ?_ | refine BrG.pos (by omega) ?_ | refine BrG.neg (by omega) ?_ | with_reducible refine BrG.pos rfl ?_ | refine BrG.pos (by assumption) ?_ | refine BrG.neg (by assumption) ?_ | refine BrG.pos (by decide) ?_ | refine BrG.neg (by decide) ?_) | refine Chk.mk (ptr_ok tblOk rfl rfl) ?_ | refine Chk.mk (by decide) ?_ | refine hS.ldC rfl ?_ | refine hS.ldnC rfl ?_)
    refine hS.ldC (v := u32V W7) (by rw [← g4]; congr 1; omega) ?_
    repeat (first | refine SemW.run tblOk ?_ | refine IntG.nw (by omega) ?_ | refine IntG.nu8 (by omega) ?_ | refine IntG.nu32 (by omega) ?_ | refine IntG.nu64 (by omega) ?_ | refine IntG.wr' rfl ?_ | refine Chk.mk (by omega) ?_ | (refine BrG.id ?_; first | with_reducible refine BrG.t ?_ | with_reducible refine BrG.f ?_ | with_reducible refine BrG.notG ?_ | with_reducible refine BrG.nn ?_ | with_reducible refine BrG.ns ?_ | refine BrG.pos (by omega) ?_ | refine BrG.neg (by omega) ?_ | with_reducible refine BrG.pos rfl ?_ | refine BrG.pos (by assumption) ?_ | refine BrG.neg (by assumption) ?_ | refine BrG.pos (by decide) ?_ | refine BrG.neg (by decide) ?_) | refine Chk.mk (ptr_ok tblOk rfl rfl) ?_ | refine Chk.mk (by decide) ?_ | refine hS.ldC rfl ?_ | refine hS.ldnC rfl ?_)
    refine Cl.mono (turn_spec X 7 hX (by omega) (by omega)) ?_
    rintro _ _ ⟨rfl, hS'⟩
    have hS := hS.call0 hS'
    refine Chk.mk hS ?_
    repeat (first | refine SemW.run tblOk ?_ | refine IntG.nw (by omega) ?_ | refine IntG.nu8 (by omega) ?_ | refine IntG.nu32 (by omega) ?_ | refine IntG.nu64 (by omega) ?_ | refine IntG.wr' rfl ?_ | refine Chk.mk (by omega) ?_ | (refine BrG.id ?_; first | with_reducible refine BrG.t ?_ | with_reducible refine BrG.f ?_ | with_reducible refine BrG.notG ?_ | with_reducible refine BrG.nn ?_ | with_reducible refine BrG.ns ?_ | refine BrG.pos (by omega) ?_ | refine BrG.neg (by omega) ?_ | with_reducible refine BrG.pos rfl ?_ | refine BrG.pos (by assumption) ?_ | refine BrG.neg (by assumption) ?_ | refine BrG.pos (by decide) ?_ | refine BrG.neg (by decide) ?_) | refine Chk.mk (ptr_ok tblOk rfl rfl) ?_ | refine Chk.mk (by decide) ?_ | refine hS.ldC rfl ?_ | refine hS.ldnC rfl ?_)
    refine Cl.mono (turn_spec X 18 hX (by omega) (by omega)) ?_
    rintro _ _ ⟨rfl, hS'⟩
    have hS := hS.call0 hS'
    refine Chk.mk hS ?_
    repeat (first | refine SemW.run tblOk ?_ | refine IntG.nw (by omega) ?_ | refine IntG.nu8 (by omega) ?_ | refine IntG.nu32 (by omega) ?_ | refine IntG.nu64 (by omega) ?_ | refine IntG.wr' rfl ?_ | refine Chk.mk (by omega) ?_ | (refine BrG.id ?_; first | with_reducible refine BrG.t ?_ | with_reducible refine BrG.f ?_ | with_reducible refine BrG.notG ?_ | with_reducible refine BrG.nn ?_ | with_reducible refine BrG.ns ?_ | refine BrG.pos (by omega) ?_ | refine BrG.neg (by omega) ?_ | with_reducible refine BrG.pos rfl ?_ | refine BrG.pos (by assumption) ?_ | refine BrG.neg (by assumption) ?_ | refine BrG.pos (by decide) ?_ | refine BrG.neg (by decide) ?_) | refine Chk.mk (ptr_ok tblOk rfl rfl) ?_ | refine Chk.mk (by decide) ?_ | refine hS.ldC rfl ?_ | refine hS.ldnC rfl ?_)
    refine Cl.mono (turn_spec Y 17 hY (by omega) (by omega)) ?_
    rintro _ _ ⟨rfl, hS'⟩
    have hS := hS.call0 hS'
    refine Chk.mk hS ?_
    repeat (first | refine SemW.run tblOk ?_ | refine IntG.nw (by omega) ?_ | refine IntG.nu8 (by omega) ?_ | refine IntG.nu32 (by omega) ?_ | refine IntG.nu64 (by omega) ?_ | refine IntG.wr' rfl ?_ | refine Chk.mk (by omega) ?_ | (refine BrG.id ?_; first | with_reducible refine BrG.t ?_ | with_reducible refine BrG.f ?_ | with_reducible refine BrG.notG ?_ | with_reducible refine BrG.nn ?_ | with_reducible refine BrG.ns ?_ | refine BrG.pos (by omega) ?_ | refine BrG.neg (by omega) ?_ | with_reducible refine BrG.pos rfl ?_ | refine BrG.pos (by assumption) ?_ | refine BrG.neg (by assumption) ?_ | refine BrG.pos (by decide) ?_ | refine BrG.neg (by decide) ?_) | refine Chk.mk (ptr_ok tblOk rfl rfl) ?_ | refine Chk.mk (by decide) ?_ | refine hS.ldC rfl ?_ | refine hS.ldnC rfl ?_)
    refine Cl.mono (turn_spec Y 19 hY (by omega) (by omega)) ?_
    rintro _ _ ⟨rfl, hS'⟩
    have hS := hS.call0 hS'
    refine Chk.mk hS ?_
    repeat (first | refine SemW.run tblOk ?_ | refine IntG.nw (by omega) ?_ | refine IntG.nu8 (by omega) ?_ | refine IntG.nu32 (by omega) ?_ | refine IntG.nu64 (by omega) ?_ | refine IntG.wr' rfl ?_ | refine Chk.mk (by omega) ?_ | (refine BrG.id ?_; first | with_reducible refine BrG.t ?_ | with_reducible refine BrG.f ?_ | with_reducible refine BrG.notG ?_ | with_reducible refine BrG.nn ?_ | with_reducible refine BrG.ns ?_ | refine BrG.pos (by omega) ?_ | refine BrG.neg (by omega) ?_ | with_reducible refine BrG.pos rfl ?_ | refine BrG.pos (by assumption) ?_ | refine BrG.neg (by assumption) ?_ | refine BrG.pos (by decide) ?_ | refine BrG.neg (by decide) ?_) | refine Chk.mk (ptr_ok tblOk rfl rfl) ?_ | refine Chk.mk (by decide) ?_ | refine hS.ldC rfl ?_ | refine hS.ldnC rfl ?_)
    refine hS.stI rfl (by rw [wsC_len _ (by omega)]; omega) ?_
    intro w6 hS
    have hs0 := sg_eq (rotr 7 X) (rotr 18 X) X 3 (rotr_lt' 7 X hX (by omega)) (rotr_lt' 18 X hX (by omega)) hX
    have hs1 := sg_eq (rotr 17 Y) (rotr 19 Y) Y 10 (rotr_lt' 17 Y hY (by omega)) (rotr_lt' 19 Y hY (by omega)) hY
    have hwv := wv_eq W16 W7 (sg0 X) (sg1 Y)
    have hv : u32V (wNext (words b n) (16 + n)) = Value.int .u32 (IntKind.u32.wrap (IntKind.u32.wrap (IntKind.u32.wrap ((W16 : Int) + (W7 : Int)) + xorI .u32 (xorI .u32 (rotr 7 X : Int) (rotr 18 X : Int)) ((X : Int).fdiv (2 ^ 3))) + xorI .u32 (xorI .u32 (rotr 17 Y : Int) (rotr 19 Y : Int)) ((Y : Int).fdiv (2 ^ 10)))) := by
      rw [hs0, hs1, hwn]
      exact (congrArg (Value.int .u32) hwv).symm
    rw [hwl] at hst
    have hS : St w [B] ((wb, .cells ⟨wsC (words b (n + 1))⟩ T_64_uint32 (0, 0)) :: (B, digC h tail) :: []) w6 := by
      show St w [B] ((wb, .cells ⟨wsC (words b n ++ [wNext (words b n) (16 + n)])⟩ T_64_uint32 (0, 0)) :: (B, digC h tail) :: []) w6
      rw [← hst, hv]
      have e0 : 0 + (((16 + n : Nat) : Int)).toNat * 1 = 16 + n := by omega
      rw [e0] at hS
      exact hS
    repeat (first | refine SemW.run tblOk ?_ | refine IntG.nw (by omega) ?_ | refine IntG.nu8 (by omega) ?_ | refine IntG.nu32 (by omega) ?_ | refine IntG.nu64 (by omega) ?_ | refine IntG.wr' rfl ?_ | refine Chk.mk (by omega) ?_ | (refine BrG.id ?_; first | with_reducible refine BrG.t ?_ | with_reducible refine BrG.f ?_ | with_reducible refine BrG.notG ?_ | with_reducible refine BrG.nn ?_ | with_reducible refine BrG.ns ?_ | refine BrG.pos (by omega) ?_ | refine BrG.neg (by omega) ?_ | with_reducible refine BrG.pos rfl ?_ | refine BrG.pos (by assumption) ?_ | refine BrG.neg (by assumption) ?_ | refine BrG.pos (by decide) ?_ | refine BrG.neg (by decide) ?_) | refine Chk.mk (ptr_ok tblOk rfl rfl) ?_ | refine Chk.mk (by decide) ?_ | refine hS.ldC rfl ?_ | refine hS.ldnC rfl ?_)
    refine ⟨n + 1, ⟨rfl, rfl, rfl, ?_, trivial⟩, ⟨by omega, hS⟩, by omega⟩
    show _ = (_ : Value)
    rw [show ((16 + (n + 1) : Nat) : Int) = ((16 + n : Nat) : Int) + 1 by omega]
  have hn48 : n = 48 := by omega
  subst hn48
  unfold stepM
  generalize words b 48 = W at hS hwl hwt ⊢
  obtain ⟨h0, h1, h2, h3, h4, h5, h6, h7, rfl⟩ := eight h hlen
  have hS : St w [B] ((wb, .cells ⟨wsC W⟩ T_64_uint32 (0, 0)) :: (B, .cells ⟨[h0, h1, h2, h3, h4, h5, h6, h7].map u32V ++ (kList.map u32V ++ tail)⟩ T_tag_digest (0, 0)) :: []) w4 := hS
  repeat (first | refine SemW.run tblOk ?_ | refine IntG.nw (by omega) ?_ | refine IntG.nu8 (by omega) ?_ | refine IntG.nu32 (by omega) ?_ | refine IntG.nu64 (by omega) ?_ | refine IntG.wr' rfl ?_ | refine Chk.mk (by omega) ?_ | (refine BrG.id ?_; first | with_reducible refine BrG.t ?_ | with_reducible refine BrG.f ?_ | with_reducible refine BrG.notG ?_ | with_reducible refine BrG.nn ?_ | with_reducible refine BrG.ns ?_ | refine BrG.pos (by omega) ?_ | refine BrG.neg (by omega) ?_ | with_reducible refine BrG.pos rfl ?_ | refine BrG.pos (by assumption) ?_ | refine BrG.neg (by assumption) ?_ | refine BrG.pos (by decide) ?_ | refine BrG.neg (by decide) ?_) | refine Chk.mk (ptr_ok tblOk rfl rfl) ?_ | refine Chk.mk (by decide) ?_)
  refine hS.ldn rfl ?_
  repeat (first | refine SemW.run tblOk ?_ | refine IntG.nw (by omega) ?_ | refine IntG.nu8 (by omega) ?_ | refine IntG.nu32 (by omega) ?_ | refine IntG.nu64 (by omega) ?_ | refine IntG.wr' rfl ?_ | refine Chk.mk (by omega) ?_ | (refine BrG.id ?_; first | with_reducible refine BrG.t ?_ | with_reducible refine BrG.f ?_ | with_reducible refine BrG.notG ?_ | with_reducible refine BrG.nn ?_ | with_reducible refine BrG.ns ?_ | refine BrG.pos (by omega) ?_ | refine BrG.neg (by omega) ?_ | with_reducible refine BrG.pos rfl ?_ | refine BrG.pos (by assumption) ?_ | refine BrG.neg (by assumption) ?_ | refine BrG.pos (by decide) ?_ | refine BrG.neg (by decide) ?_) | refine Chk.mk (ptr_ok tblOk rfl rfl) ?_ | refine Chk.mk (by decide) ?_)
  refine hS.al ?_
  intro vb w5 _ hS
  repeat (first | refine SemW.run tblOk ?_ | refine IntG.nw (by omega) ?_ | refine IntG.nu8 (by omega) ?_ | refine IntG.nu32 (by omega) ?_ | refine IntG.nu64 (by omega) ?_ | refine IntG.wr' rfl ?_ | refine Chk.mk (by omega) ?_ | (refine BrG.id ?_; first | with_reducible refine BrG.t ?_ | with_reducible refine BrG.f ?_ | with_reducible refine BrG.notG ?_ | with_reducible refine BrG.nn ?_ | with_reducible refine BrG.ns ?_ | refine BrG.pos (by omega) ?_ | refine BrG.neg (by omega) ?_ | with_reducible refine BrG.pos rfl ?_ | refine BrG.pos (by assumption) ?_ | refine BrG.neg (by assumption) ?_ | refine BrG.pos (by decide) ?_ | refine BrG.neg (by decide) ?_) | refine Chk.mk (ptr_ok tblOk rfl rfl) ?_ | refine Chk.mk (by decide) ?_)
  refine hS.st rfl rfl ?_
  intro w6 hS
  have hS : St w [B] ((vb, .cells ⟨[h0, h1, h2, h3, h4, h5, h6, h7].map u32V⟩ T_tag_state (0, 0)) :: (wb, .cells ⟨wsC W⟩ T_64_uint32 (0, 0)) :: (B, .cells ⟨[h0, h1, h2, h3, h4, h5, h6, h7].map u32V ++ (kList.map u32V ++ tail)⟩ T_tag_digest (0, 0)) :: []) w6 := hS
  generalize hHH : [h0, h1, h2, h3, h4, h5, h6, h7] = h at hS hlen hlt ⊢
  repeat (first | refine SemW.run tblOk ?_ | refine IntG.nw (by omega) ?_ | refine IntG.nu8 (by omega) ?_ | refine IntG.nu32 (by omega) ?_ | refine IntG.nu64 (by omega) ?_ | refine IntG.wr' rfl ?_ | refine Chk.mk (by omega) ?_ | (refine BrG.id ?_; first | with_reducible refine BrG.t ?_ | with_reducible refine BrG.f ?_ | with_reducible refine BrG.notG ?_ | with_reducible refine BrG.nn ?_ | with_reducible refine BrG.ns ?_ | refine BrG.pos (by omega) ?_ | refine BrG.neg (by omega) ?_ | with_reducible refine BrG.pos rfl ?_ | refine BrG.pos (by assumption) ?_ | refine BrG.neg (by assumption) ?_ | refine BrG.pos (by decide) ?_ | refine BrG.neg (by decide) ?_) | refine Chk.mk (ptr_ok tblOk rfl rfl) ?_ | refine Chk.mk (by decide) ?_)
  refine SemW.loop (fun n : Nat => [(0, ptr B), (1, kP B), (6, ptr wb), (11, ptr vb), (102, .int .i64 n)])
    (fun n w' => n ≤ 64 ∧ St w [B] ((vb, .cells ⟨(rounds h W n).map u32V⟩ T_tag_state (0, 0)) :: (wb, .cells ⟨wsC W⟩ T_64_uint32 (0, 0)) :: (B, .cells ⟨h.map u32V ++ (kList.map u32V ++ tail)⟩ T_tag_digest (0, 0)) :: []) w') (fun n => 64 - n) 0
    ⟨rfl, rfl, rfl, rfl, rfl, trivial⟩ ⟨Nat.zero_le _, hS⟩ ?_
  rintro n w7 ⟨hn, hS⟩
  have hrl := rounds_len h W hlen n
  have hrt := rounds_lt h W hlt n
  by_cases hnl : n < 64
  · have hr1 : rounds h W (n + 1) = roundM (rounds h W n) (kList.getD n 0) (W.getD n 0) := rfl
    have gk := k_get h tail hlen n hnl
    have gw := wsC_get W n (by omega)
    have hkl := k_lt n
    have hwl2 := getD_lt W hwt n
    generalize kList.getD n 0 = kn at gk hkl hr1
    generalize W.getD n 0 = wn at gw hwl2 hr1
    generalize rounds h W n = v at hS hrl hrt hr1
    obtain ⟨A, Bv, C, D, E, F, G, Hh, rfl⟩ := eight v hrl
    have hA : A < 4294967296 := hrt A (by simp)
    have hB : Bv < 4294967296 := hrt Bv (by simp)
    have hC : C < 4294967296 := hrt C (by simp)
    have hE : E < 4294967296 := hrt E (by simp)
    have hF : F < 4294967296 := hrt F (by simp)
    have hG : G < 4294967296 := hrt G (by simp)
    have hH : Hh < 4294967296 := hrt Hh (by simp)
    have hS : St w [B] ((vb, .cells ⟨[u32V A, u32V Bv, u32V C, u32V D, u32V E, u32V F, u32V G, u32V Hh]⟩ T_tag_state (0, 0)) :: (wb, .cells ⟨wsC W⟩ T_64_uint32 (0, 0)) :: (B, .cells ⟨h.map u32V ++ (kList.map u32V ++ tail)⟩ T_tag_digest (0, 0)) :: []) w7 := hS
    repeat (first | refine SemW.run tblOk ?_ | refine IntG.nw (by omega) ?_ | refine IntG.nu8 (by omega) ?_ | refine IntG.nu32 (by omega) ?_ | refine IntG.nu64 (by omega) ?_ | refine IntG.wr' rfl ?_ | refine Chk.mk (by omega) ?_ | (refine BrG.id ?_; first | with_reducible refine BrG.t ?_ | with_reducible refine BrG.f ?_ | with_reducible refine BrG.notG ?_ | with_reducible refine BrG.nn ?_ | with_reducible refine BrG.ns ?_ | refine BrG.pos (by omega) ?_ | refine BrG.neg (by omega) ?_ | with_reducible refine BrG.pos rfl ?_ | refine BrG.pos (by assumption) ?_ | refine BrG.neg (by assumption) ?_ | refine BrG.pos (by decide) ?_ | refine BrG.neg (by decide) ?_) | refine Chk.mk (ptr_ok tblOk rfl rfl) ?_ | refine Chk.mk (by decide) ?_)
    refine SemW.draw tblOk mixed (fun w' => St w [B] ((vb, .cells ⟨[u32V A, u32V Bv, u32V C, u32V D, u32V E, u32V F, u32V G, u32V Hh]⟩ T_tag_state (0, 0)) :: (wb, .cells ⟨wsC W⟩ T_64_uint32 (0, 0)) :: (B, .cells ⟨h.map u32V ++ (kList.map u32V ++ tail)⟩ T_tag_digest (0, 0)) :: []) w') [] [0, 1, 2, 3, 4, 5] (by kernel_rfl) hS.drew ?_
    have hS := hS.drew
    repeat (first | refine SemW.run tblOk ?_ | refine IntG.nw (by omega) ?_ | refine IntG.nu8 (by omega) ?_ | refine IntG.nu32 (by omega) ?_ | refine IntG.nu64 (by omega) ?_ | refine IntG.wr' rfl ?_ | refine Chk.mk (by omega) ?_ | (refine BrG.id ?_; first | with_reducible refine BrG.t ?_ | with_reducible refine BrG.f ?_ | with_reducible refine BrG.notG ?_ | with_reducible refine BrG.nn ?_ | with_reducible refine BrG.ns ?_ | refine BrG.pos (by omega) ?_ | refine BrG.neg (by omega) ?_ | with_reducible refine BrG.pos rfl ?_ | refine BrG.pos (by assumption) ?_ | refine BrG.neg (by assumption) ?_ | refine BrG.pos (by decide) ?_ | refine BrG.neg (by decide) ?_) | refine Chk.mk (ptr_ok tblOk rfl rfl) ?_ | refine Chk.mk (by decide) ?_ | refine hS.ldC rfl ?_ | refine hS.ldnC rfl ?_)
    refine SemW.draw tblOk mixed (fun w' => St w [B] ((vb, .cells ⟨[u32V A, u32V Bv, u32V C, u32V D, u32V E, u32V F, u32V G, u32V Hh]⟩ T_tag_state (0, 0)) :: (wb, .cells ⟨wsC W⟩ T_64_uint32 (0, 0)) :: (B, .cells ⟨h.map u32V ++ (kList.map u32V ++ tail)⟩ T_tag_digest (0, 0)) :: []) w') [] [0, 1, 2, 4, 7, 11, 12, 13, 14, 15, 16, 17, 18, 19, 20, 22, 23, 24, 25, 26, 28, 29, 30, 3, 5, 6, 8, 9, 10, 21, 27, 31, 32] (by kernel_rfl) hS.drew ?_
    have hS := hS.drew
    repeat (first | refine SemW.run tblOk ?_ | refine IntG.nw (by omega) ?_ | refine IntG.nu8 (by omega) ?_ | refine IntG.nu32 (by omega) ?_ | refine IntG.nu64 (by omega) ?_ | refine IntG.wr' rfl ?_ | refine Chk.mk (by omega) ?_ | (refine BrG.id ?_; first | with_reducible refine BrG.t ?_ | with_reducible refine BrG.f ?_ | with_reducible refine BrG.notG ?_ | with_reducible refine BrG.nn ?_ | with_reducible refine BrG.ns ?_ | refine BrG.pos (by omega) ?_ | refine BrG.neg (by omega) ?_ | with_reducible refine BrG.pos rfl ?_ | refine BrG.pos (by assumption) ?_ | refine BrG.neg (by assumption) ?_ | refine BrG.pos (by decide) ?_ | refine BrG.neg (by decide) ?_) | refine Chk.mk (ptr_ok tblOk rfl rfl) ?_ | refine Chk.mk (by decide) ?_ | refine hS.ldC rfl ?_ | refine hS.ldnC rfl ?_)
    refine hS.ldC (v := u32V kn) (by rw [← gk]; congr 1; omega) ?_
    repeat (first | refine SemW.run tblOk ?_ | refine IntG.nw (by omega) ?_ | refine IntG.nu8 (by omega) ?_ | refine IntG.nu32 (by omega) ?_ | refine IntG.nu64 (by omega) ?_ | refine IntG.wr' rfl ?_ | refine Chk.mk (by omega) ?_ | (refine BrG.id ?_; first | with_reducible refine BrG.t ?_ | with_reducible refine BrG.f ?_ | with_reducible refine BrG.notG ?_ | with_reducible refine BrG.nn ?_ | with_reducible refine BrG.ns ?_ | refine BrG.pos (by omega) ?_ | refine BrG.neg (by omega) ?_ | with_reducible refine BrG.pos rfl ?_ | refine BrG.pos (by assumption) ?_ | refine BrG.neg (by assumption) ?_ | refine BrG.pos (by decide) ?_ | refine BrG.neg (by decide) ?_) | refine Chk.mk (ptr_ok tblOk rfl rfl) ?_ | refine Chk.mk (by decide) ?_ | refine hS.ldC rfl ?_ | refine hS.ldnC rfl ?_)
    refine hS.ldC (v := u32V wn) (by rw [← gw]; congr 1; omega) ?_
    repeat (first | refine SemW.run tblOk ?_ | refine IntG.nw (by omega) ?_ | refine IntG.nu8 (by omega) ?_ | refine IntG.nu32 (by omega) ?_ | refine IntG.nu64 (by omega) ?_ | refine IntG.wr' rfl ?_ | refine Chk.mk (by omega) ?_ | (refine BrG.id ?_; first | with_reducible refine BrG.t ?_ | with_reducible refine BrG.f ?_ | with_reducible refine BrG.notG ?_ | with_reducible refine BrG.nn ?_ | with_reducible refine BrG.ns ?_ | refine BrG.pos (by omega) ?_ | refine BrG.neg (by omega) ?_ | with_reducible refine BrG.pos rfl ?_ | refine BrG.pos (by assumption) ?_ | refine BrG.neg (by assumption) ?_ | refine BrG.pos (by decide) ?_ | refine BrG.neg (by decide) ?_) | refine Chk.mk (ptr_ok tblOk rfl rfl) ?_ | refine Chk.mk (by decide) ?_ | refine hS.ldC rfl ?_ | refine hS.ldnC rfl ?_)
    refine Cl.mono (turn_spec E 6 hE (by omega) (by omega)) ?_
    rintro _ _ ⟨rfl, hS'⟩
    have hS := hS.call0 hS'
    refine Chk.mk hS ?_
    repeat (first | refine SemW.run tblOk ?_ | refine IntG.nw (by omega) ?_ | refine IntG.nu8 (by omega) ?_ | refine IntG.nu32 (by omega) ?_ | refine IntG.nu64 (by omega) ?_ | refine IntG.wr' rfl ?_ | refine Chk.mk (by omega) ?_ | (refine BrG.id ?_; first | with_reducible refine BrG.t ?_ | with_reducible refine BrG.f ?_ | with_reducible refine BrG.notG ?_ | with_reducible refine BrG.nn ?_ | with_reducible refine BrG.ns ?_ | refine BrG.pos (by omega) ?_ | refine BrG.neg (by omega) ?_ | with_reducible refine BrG.pos rfl ?_ | refine BrG.pos (by assumption) ?_ | refine BrG.neg (by assumption) ?_ | refine BrG.pos (by decide) ?_ | refine BrG.neg (by decide) ?_) | refine Chk.mk (ptr_ok tblOk rfl rfl) ?_ | refine Chk.mk (by decide) ?_ | refine hS.ldC rfl ?_ | refine hS.ldnC rfl ?_)
    refine Cl.mono (turn_spec E 11 hE (by omega) (by omega)) ?_
    rintro _ _ ⟨rfl, hS'⟩
    have hS := hS.call0 hS'
    refine Chk.mk hS ?_
    repeat (first | refine SemW.run tblOk ?_ | refine IntG.nw (by omega) ?_ | refine IntG.nu8 (by omega) ?_ | refine IntG.nu32 (by omega) ?_ | refine IntG.nu64 (by omega) ?_ | refine IntG.wr' rfl ?_ | refine Chk.mk (by omega) ?_ | (refine BrG.id ?_; first | with_reducible refine BrG.t ?_ | with_reducible refine BrG.f ?_ | with_reducible refine BrG.notG ?_ | with_reducible refine BrG.nn ?_ | with_reducible refine BrG.ns ?_ | refine BrG.pos (by omega) ?_ | refine BrG.neg (by omega) ?_ | with_reducible refine BrG.pos rfl ?_ | refine BrG.pos (by assumption) ?_ | refine BrG.neg (by assumption) ?_ | refine BrG.pos (by decide) ?_ | refine BrG.neg (by decide) ?_) | refine Chk.mk (ptr_ok tblOk rfl rfl) ?_ | refine Chk.mk (by decide) ?_ | refine hS.ldC rfl ?_ | refine hS.ldnC rfl ?_)
    refine Cl.mono (turn_spec E 25 hE (by omega) (by omega)) ?_
    rintro _ _ ⟨rfl, hS'⟩
    have hS := hS.call0 hS'
    refine Chk.mk hS ?_
    repeat (first | refine SemW.run tblOk ?_ | refine IntG.nw (by omega) ?_ | refine IntG.nu8 (by omega) ?_ | refine IntG.nu32 (by omega) ?_ | refine IntG.nu64 (by omega) ?_ | refine IntG.wr' rfl ?_ | refine Chk.mk (by omega) ?_ | (refine BrG.id ?_; first | with_reducible refine BrG.t ?_ | with_reducible refine BrG.f ?_ | with_reducible refine BrG.notG ?_ | with_reducible refine BrG.nn ?_ | with_reducible refine BrG.ns ?_ | refine BrG.pos (by omega) ?_ | refine BrG.neg (by omega) ?_ | with_reducible refine BrG.pos rfl ?_ | refine BrG.pos (by assumption) ?_ | refine BrG.neg (by assumption) ?_ | refine BrG.pos (by decide) ?_ | refine BrG.neg (by decide) ?_) | refine Chk.mk (ptr_ok tblOk rfl rfl) ?_ | refine Chk.mk (by decide) ?_ | refine hS.ldC rfl ?_ | refine hS.ldnC rfl ?_)
    refine SemW.draw tblOk mixed (fun w' => St w [B] ((vb, .cells ⟨[u32V A, u32V Bv, u32V C, u32V D, u32V E, u32V F, u32V G, u32V Hh]⟩ T_tag_state (0, 0)) :: (wb, .cells ⟨wsC W⟩ T_64_uint32 (0, 0)) :: (B, .cells ⟨h.map u32V ++ (kList.map u32V ++ tail)⟩ T_tag_digest (0, 0)) :: []) w') [] [0, 2, 5, 8, 9, 10, 11, 12, 13, 14, 15, 16, 17, 18, 19, 20, 21, 22, 1, 3, 4, 6, 7, 23, 24] (by kernel_rfl) hS.drew ?_
    have hS := hS.drew
    repeat (first | refine SemW.run tblOk ?_ | refine IntG.nw (by omega) ?_ | refine IntG.nu8 (by omega) ?_ | refine IntG.nu32 (by omega) ?_ | refine IntG.nu64 (by omega) ?_ | refine IntG.wr' rfl ?_ | refine Chk.mk (by omega) ?_ | (refine BrG.id ?_; first | with_reducible refine BrG.t ?_ | with_reducible refine BrG.f ?_ | with_reducible refine BrG.notG ?_ | with_reducible refine BrG.nn ?_ | with_reducible refine BrG.ns ?_ | refine BrG.pos (by omega) ?_ | refine BrG.neg (by omega) ?_ | with_reducible refine BrG.pos rfl ?_ | refine BrG.pos (by assumption) ?_ | refine BrG.neg (by assumption) ?_ | refine BrG.pos (by decide) ?_ | refine BrG.neg (by decide) ?_) | refine Chk.mk (ptr_ok tblOk rfl rfl) ?_ | refine Chk.mk (by decide) ?_ | refine hS.ldC rfl ?_ | refine hS.ldnC rfl ?_)
    refine Cl.mono (turn_spec A 2 hA (by omega) (by omega)) ?_
    rintro _ _ ⟨rfl, hS'⟩
    have hS := hS.call0 hS'
    refine Chk.mk hS ?_
    repeat (first | refine SemW.run tblOk ?_ | refine IntG.nw (by omega) ?_ | refine IntG.nu8 (by omega) ?_ | refine IntG.nu32 (by omega) ?_ | refine IntG.nu64 (by omega) ?_ | refine IntG.wr' rfl ?_ | refine Chk.mk (by omega) ?_ | (refine BrG.id ?_; first | with_reducible refine BrG.t ?_ | with_reducible refine BrG.f ?_ | with_reducible refine BrG.notG ?_ | with_reducible refine BrG.nn ?_ | with_reducible refine BrG.ns ?_ | refine BrG.pos (by omega) ?_ | refine BrG.neg (by omega) ?_ | with_reducible refine BrG.pos rfl ?_ | refine BrG.pos (by assumption) ?_ | refine BrG.neg (by assumption) ?_ | refine BrG.pos (by decide) ?_ | refine BrG.neg (by decide) ?_) | refine Chk.mk (ptr_ok tblOk rfl rfl) ?_ | refine Chk.mk (by decide) ?_ | refine hS.ldC rfl ?_ | refine hS.ldnC rfl ?_)
    refine Cl.mono (turn_spec A 13 hA (by omega) (by omega)) ?_
    rintro _ _ ⟨rfl, hS'⟩
    have hS := hS.call0 hS'
    refine Chk.mk hS ?_
    repeat (first | refine SemW.run tblOk ?_ | refine IntG.nw (by omega) ?_ | refine IntG.nu8 (by omega) ?_ | refine IntG.nu32 (by omega) ?_ | refine IntG.nu64 (by omega) ?_ | refine IntG.wr' rfl ?_ | refine Chk.mk (by omega) ?_ | (refine BrG.id ?_; first | with_reducible refine BrG.t ?_ | with_reducible refine BrG.f ?_ | with_reducible refine BrG.notG ?_ | with_reducible refine BrG.nn ?_ | with_reducible refine BrG.ns ?_ | refine BrG.pos (by omega) ?_ | refine BrG.neg (by omega) ?_ | with_reducible refine BrG.pos rfl ?_ | refine BrG.pos (by assumption) ?_ | refine BrG.neg (by assumption) ?_ | refine BrG.pos (by decide) ?_ | refine BrG.neg (by decide) ?_) | refine Chk.mk (ptr_ok tblOk rfl rfl) ?_ | refine Chk.mk (by decide) ?_ | refine hS.ldC rfl ?_ | refine hS.ldnC rfl ?_)
    refine Cl.mono (turn_spec A 22 hA (by omega) (by omega)) ?_
    rintro _ _ ⟨rfl, hS'⟩
    have hS := hS.call0 hS'
    refine Chk.mk hS ?_
    repeat (first | refine SemW.run tblOk ?_ | refine IntG.nw (by omega) ?_ | refine IntG.nu8 (by omega) ?_ | refine IntG.nu32 (by omega) ?_ | refine IntG.nu64 (by omega) ?_ | refine IntG.wr' rfl ?_ | refine Chk.mk (by omega) ?_ | (refine BrG.id ?_; first | with_reducible refine BrG.t ?_ | with_reducible refine BrG.f ?_ | with_reducible refine BrG.notG ?_ | with_reducible refine BrG.nn ?_ | with_reducible refine BrG.ns ?_ | refine BrG.pos (by omega) ?_ | refine BrG.neg (by omega) ?_ | with_reducible refine BrG.pos rfl ?_ | refine BrG.pos (by assumption) ?_ | refine BrG.neg (by assumption) ?_ | refine BrG.pos (by decide) ?_ | refine BrG.neg (by decide) ?_) | refine Chk.mk (ptr_ok tblOk rfl rfl) ?_ | refine Chk.mk (by decide) ?_ | refine hS.ldC rfl ?_ | refine hS.ldnC rfl ?_)
    refine SemW.draw tblOk mixed (fun w' => St w [B] ((vb, .cells ⟨[u32V A, u32V Bv, u32V C, u32V D, u32V E, u32V F, u32V G, u32V Hh]⟩ T_tag_state (0, 0)) :: (wb, .cells ⟨wsC W⟩ T_64_uint32 (0, 0)) :: (B, .cells ⟨h.map u32V ++ (kList.map u32V ++ tail)⟩ T_tag_digest (0, 0)) :: []) w') [2] [0, 1, 2] (by kernel_rfl) hS.drew ?_
    have hS := hS.drew
    repeat (first | refine SemW.run tblOk ?_ | refine IntG.nw (by omega) ?_ | refine IntG.nu8 (by omega) ?_ | refine IntG.nu32 (by omega) ?_ | refine IntG.nu64 (by omega) ?_ | refine IntG.wr' rfl ?_ | refine Chk.mk (by omega) ?_ | (refine BrG.id ?_; first | with_reducible refine BrG.t ?_ | with_reducible refine BrG.f ?_ | with_reducible refine BrG.notG ?_ | with_reducible refine BrG.nn ?_ | with_reducible refine BrG.ns ?_ | refine BrG.pos (by omega) ?_ | refine BrG.neg (by omega) ?_ | with_reducible refine BrG.pos rfl ?_ | refine BrG.pos (by assumption) ?_ | refine BrG.neg (by assumption) ?_ | refine BrG.pos (by decide) ?_ | refine BrG.neg (by decide) ?_) | refine Chk.mk (ptr_ok tblOk rfl rfl) ?_ | refine Chk.mk (by decide) ?_ | refine hS.ldC rfl ?_ | refine hS.ldnC rfl ?_)
    refine sliceArrM (l := 1) (n := 8) (sz := 1) tblOk (t := T_tag_state) rfl rfl (by omega) ?_
    repeat (first | refine SemW.run tblOk ?_ | refine IntG.nw (by omega) ?_ | refine IntG.nu8 (by omega) ?_ | refine IntG.nu32 (by omega) ?_ | refine IntG.nu64 (by omega) ?_ | refine IntG.wr' rfl ?_ | refine Chk.mk (by omega) ?_ | (refine BrG.id ?_; first | with_reducible refine BrG.t ?_ | with_reducible refine BrG.f ?_ | with_reducible refine BrG.notG ?_ | with_reducible refine BrG.nn ?_ | with_reducible refine BrG.ns ?_ | refine BrG.pos (by omega) ?_ | refine BrG.neg (by omega) ?_ | with_reducible refine BrG.pos rfl ?_ | refine BrG.pos (by assumption) ?_ | refine BrG.neg (by assumption) ?_ | refine BrG.pos (by decide) ?_ | refine BrG.neg (by decide) ?_) | refine Chk.mk (ptr_ok tblOk rfl rfl) ?_ | refine Chk.mk (by decide) ?_ | refine hS.ldC rfl ?_ | refine hS.ldnC rfl ?_)
    refine sliceArrH (h := 7) (n := 8) (sz := 1) tblOk (t := T_tag_state) rfl rfl (by omega) ?_
    repeat (first | refine SemW.run tblOk ?_ | refine IntG.nw (by omega) ?_ | refine IntG.nu8 (by omega) ?_ | refine IntG.nu32 (by omega) ?_ | refine IntG.nu64 (by omega) ?_ | refine IntG.wr' rfl ?_ | refine Chk.mk (by omega) ?_ | (refine BrG.id ?_; first | with_reducible refine BrG.t ?_ | with_reducible refine BrG.f ?_ | with_reducible refine BrG.notG ?_ | with_reducible refine BrG.nn ?_ | with_reducible refine BrG.ns ?_ | refine BrG.pos (by omega) ?_ | refine BrG.neg (by omega) ?_ | with_reducible refine BrG.pos rfl ?_ | refine BrG.pos (by assumption) ?_ | refine BrG.neg (by assumption) ?_ | refine BrG.pos (by decide) ?_ | refine BrG.neg (by decide) ?_) | refine Chk.mk (ptr_ok tblOk rfl rfl) ?_ | refine Chk.mk (by decide) ?_ | refine hS.ldC rfl ?_ | refine hS.ldnC rfl ?_)
    refine St.copy (t := T_Sl_uint32) (cs := [u32V A, u32V Bv, u32V C, u32V D, u32V E, u32V F, u32V G]) tblOk rfl rfl hS rfl (Arr.take (ys := [u32V Hh]) (hS.arr (b := vb) (by simp))) rfl (by simp) ?_
    intro w9 hS
    have hS : St w [B] ((vb, .cells ⟨[u32V A, u32V A, u32V Bv, u32V C, u32V D, u32V E, u32V F, u32V G]⟩ T_tag_state (0, 0)) :: (wb, .cells ⟨wsC W⟩ T_64_uint32 (0, 0)) :: (B, .cells ⟨h.map u32V ++ (kList.map u32V ++ tail)⟩ T_tag_digest (0, 0)) :: []) w9 := hS
    repeat (first | refine SemW.run tblOk ?_ | refine IntG.nw (by omega) ?_ | refine IntG.nu8 (by omega) ?_ | refine IntG.nu32 (by omega) ?_ | refine IntG.nu64 (by omega) ?_ | refine IntG.wr' rfl ?_ | refine Chk.mk (by omega) ?_ | (refine BrG.id ?_; first | with_reducible refine BrG.t ?_ | with_reducible refine BrG.f ?_ | with_reducible refine BrG.notG ?_ | with_reducible refine BrG.nn ?_ | with_reducible refine BrG.ns ?_ | refine BrG.pos (by omega) ?_ | refine BrG.neg (by omega) ?_ | with_reducible refine BrG.pos rfl ?_ | refine BrG.pos (by assumption) ?_ | refine BrG.neg (by assumption) ?_ | refine BrG.pos (by decide) ?_ | refine BrG.neg (by decide) ?_) | refine Chk.mk (ptr_ok tblOk rfl rfl) ?_ | refine Chk.mk (by decide) ?_ | refine hS.ld rfl ?_ | refine hS.ldn rfl ?_ | (refine hS.st rfl rfl ?_; intro _ hS))
    have hx6 := xor3 (rotr 6 E) (rotr 11 E) (rotr 25 E) (rotr_lt' 6 E hE (by omega)) (rotr_lt' 11 E hE (by omega)) (rotr_lt' 25 E hE (by omega))
    have hx2 := xor3 (rotr 2 A) (rotr 13 A) (rotr 22 A) (rotr_lt' 2 A hA (by omega)) (rotr_lt' 13 A hA (by omega)) (rotr_lt' 22 A hA (by omega))
    have hT1 : IntKind.u32.wrap (IntKind.u32.wrap (IntKind.u32.wrap (IntKind.u32.wrap ((Hh : Int) + xorI .u32 (xorI .u32 (rotr 6 E : Int) (rotr 11 E : Int)) (rotr 25 E : Int)) + xorI .u32 (andI .u32 (E : Int) (F : Int)) (andI .u32 (xorI .u32 4294967295 (E : Int)) (G : Int))) + (kn : Int)) + (wn : Int)) = ((t1M [A, Bv, C, D, E, F, G, Hh] kn wn : Nat) : Int) := by
      rw [hx6, t1_eq Hh (rotr 6 E ^^^ rotr 11 E ^^^ rotr 25 E) E F G kn wn hH hE hF hG]; rfl
    have hT2 : IntKind.u32.wrap (xorI .u32 (xorI .u32 (rotr 2 A : Int) (rotr 13 A : Int)) (rotr 22 A : Int) + xorI .u32 (xorI .u32 (andI .u32 (A : Int) (Bv : Int)) (andI .u32 (A : Int) (C : Int))) (andI .u32 (Bv : Int) (C : Int))) = ((t2M [A, Bv, C, D, E, F, G, Hh] : Nat) : Int) := by
      rw [hx2, t2_eq (rotr 2 A ^^^ rotr 13 A ^^^ rotr 22 A) A Bv C hA hB hC]; rfl
    have q1 : u32V ((t1M [A, Bv, C, D, E, F, G, Hh] kn wn + t2M [A, Bv, C, D, E, F, G, Hh]) % p32) = Value.int .u32 (IntKind.u32.wrap (IntKind.u32.wrap (IntKind.u32.wrap (IntKind.u32.wrap (IntKind.u32.wrap ((Hh : Int) + xorI .u32 (xorI .u32 (rotr 6 E : Int) (rotr 11 E : Int)) (rotr 25 E : Int)) + xorI .u32 (andI .u32 (E : Int) (F : Int)) (andI .u32 (xorI .u32 4294967295 (E : Int)) (G : Int))) + (kn : Int)) + (wn : Int)) + IntKind.u32.wrap (xorI .u32 (xorI .u32 (rotr 2 A : Int) (rotr 13 A : Int)) (rotr 22 A : Int) + xorI .u32 (xorI .u32 (andI .u32 (A : Int) (Bv : Int)) (andI .u32 (A : Int) (C : Int))) (andI .u32 (Bv : Int) (C : Int))))) := by
      rw [hT1, hT2, wadd]; rfl
    have q2 : u32V ((D + t1M [A, Bv, C, D, E, F, G, Hh] kn wn) % p32) = Value.int .u32 (IntKind.u32.wrap ((D : Int) + IntKind.u32.wrap (IntKind.u32.wrap (IntKind.u32.wrap (IntKind.u32.wrap ((Hh : Int) + xorI .u32 (xorI .u32 (rotr 6 E : Int) (rotr 11 E : Int)) (rotr 25 E : Int)) + xorI .u32 (andI .u32 (E : Int) (F : Int)) (andI .u32 (xorI .u32 4294967295 (E : Int)) (G : Int))) + (kn : Int)) + (wn : Int)))) := by
      rw [hT1, wadd]; rfl
    refine ⟨n + 1, ⟨rfl, rfl, rfl, rfl, rfl, trivial⟩, ⟨by omega, ?_⟩, by omega⟩
    rw [hr1]
    show St w [B] ((vb, .cells ⟨[u32V ((t1M [A, Bv, C, D, E, F, G, Hh] kn wn + t2M [A, Bv, C, D, E, F, G, Hh]) % p32), u32V A, u32V Bv, u32V C, u32V ((D + t1M [A, Bv, C, D, E, F, G, Hh] kn wn) % p32), u32V E, u32V F, u32V G]⟩ T_tag_state (0, 0)) :: (wb, .cells ⟨wsC W⟩ T_64_uint32 (0, 0)) :: (B, .cells ⟨h.map u32V ++ (kList.map u32V ++ tail)⟩ T_tag_digest (0, 0)) :: []) _
    rw [q1, q2]
    exact hS
  have hn64 : n = 64 := by omega
  subst hn64
  generalize rounds h W 64 = v at hS hrl hrt ⊢
  obtain ⟨A, Bv, C, D, E, F, G, Hh, rfl⟩ := eight v hrl
  have hS : St w [B] ((vb, .cells ⟨[u32V A, u32V Bv, u32V C, u32V D, u32V E, u32V F, u32V G, u32V Hh]⟩ T_tag_state (0, 0)) :: (wb, .cells ⟨wsC W⟩ T_64_uint32 (0, 0)) :: (B, .cells ⟨h.map u32V ++ (kList.map u32V ++ tail)⟩ T_tag_digest (0, 0)) :: []) w7 := hS
  repeat (first | refine SemW.run tblOk ?_ | refine IntG.nw (by omega) ?_ | refine IntG.nu8 (by omega) ?_ | refine IntG.nu32 (by omega) ?_ | refine IntG.nu64 (by omega) ?_ | refine IntG.wr' rfl ?_ | refine Chk.mk (by omega) ?_ | (refine BrG.id ?_; first | with_reducible refine BrG.t ?_ | with_reducible refine BrG.f ?_ | with_reducible refine BrG.notG ?_ | with_reducible refine BrG.nn ?_ | with_reducible refine BrG.ns ?_ | refine BrG.pos (by omega) ?_ | refine BrG.neg (by omega) ?_ | with_reducible refine BrG.pos rfl ?_ | refine BrG.pos (by assumption) ?_ | refine BrG.neg (by assumption) ?_ | refine BrG.pos (by decide) ?_ | refine BrG.neg (by decide) ?_) | refine Chk.mk (ptr_ok tblOk rfl rfl) ?_ | refine Chk.mk (by decide) ?_ | refine hS.ld rfl ?_ | refine hS.ldn rfl ?_ | (refine hS.st rfl rfl ?_; intro _ hS))
  have hS := hS.sub (H' := (B, .cells ⟨h.map u32V ++ (kList.map u32V ++ tail)⟩ T_tag_digest (0, 0)) :: []) (List.Sublist.cons _ (List.Sublist.cons _ (List.Sublist.refl _)))
  have hp0 : hp h [A, Bv, C, D, E, F, G, Hh] 0 = h := by rw [← hHH]; rfl
  have hS : St w [B] ((B, .cells ⟨(hp h [A, Bv, C, D, E, F, G, Hh] 0).map u32V ++ (kList.map u32V ++ tail)⟩ T_tag_digest (0, 0)) :: []) w7 := by rw [hp0]; exact hS
  refine SemW.loop (fun n : Nat => [(0, ptr B), (178, .agg ⟨[u32V A, u32V Bv, u32V C, u32V D, u32V E, u32V F, u32V G, u32V Hh]⟩), (179, .int .i64 n)])
    (fun n w' => n ≤ 8 ∧ St w [B] ((B, .cells ⟨(hp h [A, Bv, C, D, E, F, G, Hh] n).map u32V ++ (kList.map u32V ++ tail)⟩ T_tag_digest (0, 0)) :: []) w') (fun n => 8 - n) 0
    ⟨rfl, rfl, rfl, trivial⟩ ⟨Nat.zero_le _, hS⟩ ?_
  rintro n w8 ⟨hn, hS⟩
  by_cases hnl : n < 8
  · have gv : ([u32V A, u32V Bv, u32V C, u32V D, u32V E, u32V F, u32V G, u32V Hh] : List Value)[n]? = some (u32V ([A, Bv, C, D, E, F, G, Hh].getD n 0)) := by
      match n, hnl with
      | 0, _ => rfl
      | 1, _ => rfl
      | 2, _ => rfl
      | 3, _ => rfl
      | 4, _ => rfl
      | 5, _ => rfl
      | 6, _ => rfl
      | 7, _ => rfl
    have gh := hp_get h [A, Bv, C, D, E, F, G, Hh] n hnl (kList.map u32V ++ tail)
    have gs := hp_set h [A, Bv, C, D, E, F, G, Hh] n hnl (kList.map u32V ++ tail)
    generalize [A, Bv, C, D, E, F, G, Hh].getD n 0 = vn at gv gs
    generalize h.getD n 0 = hn0 at gh gs
    repeat (first | refine SemW.run tblOk ?_ | refine IntG.nw (by omega) ?_ | refine IntG.nu8 (by omega) ?_ | refine IntG.nu32 (by omega) ?_ | refine IntG.nu64 (by omega) ?_ | refine IntG.wr' rfl ?_ | refine Chk.mk (by omega) ?_ | (refine BrG.id ?_; first | with_reducible refine BrG.t ?_ | with_reducible refine BrG.f ?_ | with_reducible refine BrG.notG ?_ | with_reducible refine BrG.nn ?_ | with_reducible refine BrG.ns ?_ | refine BrG.pos (by omega) ?_ | refine BrG.neg (by omega) ?_ | with_reducible refine BrG.pos rfl ?_ | refine BrG.pos (by assumption) ?_ | refine BrG.neg (by assumption) ?_ | refine BrG.pos (by decide) ?_ | refine BrG.neg (by decide) ?_) | refine Chk.mk (ptr_ok tblOk rfl rfl) ?_ | refine Chk.mk (by decide) ?_)
    refine indexArr (n := 8) tblOk (t := T_tag_state) rfl rfl rfl rfl (by omega) gv ?_
    repeat (first | refine SemW.run tblOk ?_ | refine IntG.nw (by omega) ?_ | refine IntG.nu8 (by omega) ?_ | refine IntG.nu32 (by omega) ?_ | refine IntG.nu64 (by omega) ?_ | refine IntG.wr' rfl ?_ | refine Chk.mk (by omega) ?_ | (refine BrG.id ?_; first | with_reducible refine BrG.t ?_ | with_reducible refine BrG.f ?_ | with_reducible refine BrG.notG ?_ | with_reducible refine BrG.nn ?_ | with_reducible refine BrG.ns ?_ | refine BrG.pos (by omega) ?_ | refine BrG.neg (by omega) ?_ | with_reducible refine BrG.pos rfl ?_ | refine BrG.pos (by assumption) ?_ | refine BrG.neg (by assumption) ?_ | refine BrG.pos (by decide) ?_ | refine BrG.neg (by decide) ?_) | refine Chk.mk (ptr_ok tblOk rfl rfl) ?_ | refine Chk.mk (by decide) ?_)
    refine SemW.draw tblOk mixed (fun w' => St w [B] ((B, .cells ⟨(hp h [A, Bv, C, D, E, F, G, Hh] n).map u32V ++ (kList.map u32V ++ tail)⟩ T_tag_digest (0, 0)) :: []) w') [9] [0, 1, 2, 3, 4, 5, 6, 7, 8, 9] (by kernel_rfl) hS.drew ?_
    have hS := hS.drew
    repeat (first | refine SemW.run tblOk ?_ | refine IntG.nw (by omega) ?_ | refine IntG.nu8 (by omega) ?_ | refine IntG.nu32 (by omega) ?_ | refine IntG.nu64 (by omega) ?_ | refine IntG.wr' rfl ?_ | refine Chk.mk (by omega) ?_ | (refine BrG.id ?_; first | with_reducible refine BrG.t ?_ | with_reducible refine BrG.f ?_ | with_reducible refine BrG.notG ?_ | with_reducible refine BrG.nn ?_ | with_reducible refine BrG.ns ?_ | refine BrG.pos (by omega) ?_ | refine BrG.neg (by omega) ?_ | with_reducible refine BrG.pos rfl ?_ | refine BrG.pos (by assumption) ?_ | refine BrG.neg (by assumption) ?_ | refine BrG.pos (by decide) ?_ | refine BrG.neg (by decide) ?_) | refine Chk.mk (ptr_ok tblOk rfl rfl) ?_ | refine Chk.mk (by decide) ?_ | refine hS.ldC rfl ?_ | refine hS.ldnC rfl ?_)
    refine hS.ldC (v := u32V hn0) (by rw [← gh]; congr 1; omega) ?_
    repeat (first | refine SemW.run tblOk ?_ | refine IntG.nw (by omega) ?_ | refine IntG.nu8 (by omega) ?_ | refine IntG.nu32 (by omega) ?_ | refine IntG.nu64 (by omega) ?_ | refine IntG.wr' rfl ?_ | refine Chk.mk (by omega) ?_ | (refine BrG.id ?_; first | with_reducible refine BrG.t ?_ | with_reducible refine BrG.f ?_ | with_reducible refine BrG.notG ?_ | with_reducible refine BrG.nn ?_ | with_reducible refine BrG.ns ?_ | refine BrG.pos (by omega) ?_ | refine BrG.neg (by omega) ?_ | with_reducible refine BrG.pos rfl ?_ | refine BrG.pos (by assumption) ?_ | refine BrG.neg (by assumption) ?_ | refine BrG.pos (by decide) ?_ | refine BrG.neg (by decide) ?_) | refine Chk.mk (ptr_ok tblOk rfl rfl) ?_ | refine Chk.mk (by decide) ?_ | refine hS.ldC rfl ?_ | refine hS.ldnC rfl ?_)
    refine hS.stI rfl (by simp [hp]; omega) ?_
    intro w9 hS
    repeat (first | refine SemW.run tblOk ?_ | refine IntG.nw (by omega) ?_ | refine IntG.nu8 (by omega) ?_ | refine IntG.nu32 (by omega) ?_ | refine IntG.nu64 (by omega) ?_ | refine IntG.wr' rfl ?_ | refine Chk.mk (by omega) ?_ | (refine BrG.id ?_; first | with_reducible refine BrG.t ?_ | with_reducible refine BrG.f ?_ | with_reducible refine BrG.notG ?_ | with_reducible refine BrG.nn ?_ | with_reducible refine BrG.ns ?_ | refine BrG.pos (by omega) ?_ | refine BrG.neg (by omega) ?_ | with_reducible refine BrG.pos rfl ?_ | refine BrG.pos (by assumption) ?_ | refine BrG.neg (by assumption) ?_ | refine BrG.pos (by decide) ?_ | refine BrG.neg (by decide) ?_) | refine Chk.mk (ptr_ok tblOk rfl rfl) ?_ | refine Chk.mk (by decide) ?_ | refine hS.ldC rfl ?_ | refine hS.ldnC rfl ?_)
    refine ⟨n + 1, ⟨rfl, rfl, rfl, trivial⟩, ⟨by omega, ?_⟩, by omega⟩
    rw [← gs]
    have q3 : u32V ((hn0 + vn) % p32) = Value.int .u32 (IntKind.u32.wrap ((hn0 : Int) + (vn : Int))) := by rw [wadd]; rfl
    rw [q3]
    have e0 : 0 + ((n : Int)).toNat * 1 = n := by omega
    rw [e0] at hS
    exact hS
  have hn8 : n = 8 := by omega
  subst hn8
  repeat (first | refine SemW.run tblOk ?_ | refine IntG.nw (by omega) ?_ | refine IntG.nu8 (by omega) ?_ | refine IntG.nu32 (by omega) ?_ | refine IntG.nu64 (by omega) ?_ | refine IntG.wr' rfl ?_ | refine Chk.mk (by omega) ?_ | (refine BrG.id ?_; first | with_reducible refine BrG.t ?_ | with_reducible refine BrG.f ?_ | with_reducible refine BrG.notG ?_ | with_reducible refine BrG.nn ?_ | with_reducible refine BrG.ns ?_ | refine BrG.pos (by omega) ?_ | refine BrG.neg (by omega) ?_ | with_reducible refine BrG.pos rfl ?_ | refine BrG.pos (by assumption) ?_ | refine BrG.neg (by assumption) ?_ | refine BrG.pos (by decide) ?_ | refine BrG.neg (by decide) ?_) | refine Chk.mk (ptr_ok tblOk rfl rfl) ?_ | refine Chk.mk (by decide) ?_)
  exact hS
end Go.Proofs.YtklppplnkpnbhaaDoor
