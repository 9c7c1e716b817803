/- The document's digest (tarmacref19): turn, shift, k, words. -/
import Derived.Test.YtklppplnkpnbhaaDoorTagEnd
import Derived.Test.YtklppplnkpnbhaaDoorMac
import Derived.Test.YtklppplnkpnbhaaDoorRef01
namespace Go.Eng
open Go
/-- Several cells of a list that is no literal. -/
theorem St.ldnS {w0 w : World} {T : List Nat} {H : Heap} {n b off : Nat} {l l' : List Value} {t : TypeId} {fz : Nat × Nat} {F : Obj → Heap} (hS : St w0 T H w) [Slot H b (.cells ⟨l⟩ t fz) F] (hl : (l.drop off).take n = l') (hn : l'.length = n)
    {K : List Value → Prop} (hk : K l') : LdN (fun w' => w = w') n b off K := by
  subst hl
  refine ⟨⟨_, hn, fun _ e j v hv => ?_, hk⟩⟩
  subst e
  refine hS.cell ?_
  rw [List.getElem?_take] at hv
  split at hv
  · rw [List.getElem?_drop] at hv; exact hv
  · cases hv
theorem St.ldnSC {w0 w : World} {T : List Nat} {H : Heap} {n b off : Nat} {l l' : List Value} {t : TypeId} {fz : Nat × Nat} {F : Obj → Heap} (_hS : St w0 T H w) [Slot H b (.cells ⟨l⟩ t fz) F] (hl : (l.drop off).take n = l') (hn : l'.length = n)
    {K : List Value → Prop} (hk : K l') : LdN (fun w' => St w0 T H w') n b off K := by
  subst hl
  refine ⟨⟨_, hn, fun _ h j v hv => ?_, hk⟩⟩
  refine h.cell ?_
  rw [List.getElem?_take] at hv
  split at hv
  · rw [List.getElem?_drop] at hv; exact hv
  · cases hv
end Go.Eng
namespace Go.Proofs.YtklppplnkpnbhaaDoor
open Go Go.Eng Go.Proofs

theorem rotr_zero (x : Nat) : rotr 0 x = x := by unfold rotr; simp [Nat.mod_one]
theorem rotr_step (x i : Nat) (hi : i < 32) : rotr (i + 1) x = rotr i x / 2 + rotr i x % 2 * 2147483648 := by
  unfold rotr
  obtain ⟨M, hM⟩ : ∃ M, M = 2 ^ (31 - i) := ⟨_, rfl⟩
  obtain ⟨P, hP⟩ : ∃ P, P = 2 ^ i := ⟨_, rfl⟩
  have h1 : 2 ^ (32 - i) = 2 * M := by rw [hM, show 32 - i = (31 - i) + 1 by omega, Nat.pow_succ, Nat.mul_comm]
  have h2 : 2 ^ (32 - (i + 1)) = M := by rw [hM, show 32 - (i + 1) = 31 - i by omega]
  have h3 : 2 ^ (i + 1) = P * 2 := by rw [hP, Nat.pow_succ]
  have h4 : P * M = 2147483648 := by rw [hP, hM, ← Nat.pow_add, show i + (31 - i) = 31 by omega]
  have hP0 : 0 < P := by rw [hP]; exact Nat.pow_pos (by omega)
  rw [h1, h2, h3, ← hP]
  obtain ⟨q, hq⟩ : ∃ q, q = x / P := ⟨_, rfl⟩
  obtain ⟨r, hr⟩ : ∃ r, r = x % P := ⟨_, rfl⟩
  have hxd : x / (P * 2) = q / 2 := by rw [hq, Nat.div_div_eq_div_mul]
  have hxm : x % (P * 2) = r + q % 2 * P := by
    rw [Nat.mod_mul, ← hr, ← hq, Nat.mul_comm]
  rw [hxd, hxm, ← hq, ← hr, Nat.add_mul, Nat.mul_assoc, h4]
  have e1 : r * (2 * M) = 2 * (r * M) := by rw [Nat.mul_left_comm]
  rw [e1]
  obtain ⟨z, hz⟩ : ∃ z, z = r * M := ⟨_, rfl⟩
  rw [← hz]
  rw [show (q + 2 * z) / 2 = q / 2 + z by omega, show (q + 2 * z) % 2 = q % 2 by omega]
  omega
set_option maxHeartbeats 1000000 in
theorem turnE_spec {w : World} (x n : Nat) (hx : x < 4294967296) (hn : n ≤ 32) : Cl Tryd.prog f_tarmacref19_turn [u32V x, .int .i64 n] w fun v w' => v = u32V (rotr n x) ∧ St w [] [] w' := by
  have hS := St.start w
  unfold u32V
  refine en_tarmacref19_turn rfl ?_
  repeat (first | refine SemW.run tblOk ?_ | refine IntG.nw (by omega) ?_ | refine IntG.nu8 (by omega) ?_ | refine IntG.nu32 (by omega) ?_ | refine IntG.nu64 (by omega) ?_ | refine IntG.wr' rfl ?_ | refine Chk.mk (by omega) ?_ | (refine BrG.id ?_; first | with_reducible refine BrG.t ?_ | with_reducible refine BrG.f ?_ | with_reducible refine BrG.notG ?_ | with_reducible refine BrG.nn ?_ | with_reducible refine BrG.ns ?_ | refine BrG.pos (by omega) ?_ | refine BrG.neg (by omega) ?_ | with_reducible refine BrG.pos rfl ?_ | refine BrG.pos (by assumption) ?_ | refine BrG.neg (by assumption) ?_) | refine Chk.mk (ptr_ok tblOk rfl rfl) ?_)
  refine SemW.loop (fun i : Nat => [(0, .int .u32 (rotr i x : Nat)), (1, .int .i64 n), (5, .int .i64 i)])
    (fun i w' => i ≤ n ∧ St w [] [] w') (fun i => n - i) 0
    ⟨congrArg (Value.int .u32) (by rw [rotr_zero]), rfl, rfl, trivial⟩ ⟨Nat.zero_le _, hS⟩ ?_
  rintro i w1 ⟨hi, hS⟩
  by_cases hin : i < n
  · have hst := rotr_step x i (by omega)
    have hlt := rotr_lt' i x hx (by omega)
    generalize rotr i x = y at hst hlt ⊢
    have e1 : ((y : Int).tmod 2) = ((y % 2 : Nat) : Int) := tmodN y 2
    have e2 : ((y : Int).tdiv 2) = ((y / 2 : Nat) : Int) := tdivN y 2
    repeat (first | refine SemW.run tblOk ?_ | refine IntG.nw (by omega) ?_ | refine IntG.nu8 (by omega) ?_ | refine IntG.nu32 (by omega) ?_ | refine IntG.nu64 (by omega) ?_ | refine IntG.wr' rfl ?_ | refine Chk.mk (by omega) ?_ | (refine BrG.id ?_; first | with_reducible refine BrG.t ?_ | with_reducible refine BrG.f ?_ | with_reducible refine BrG.notG ?_ | with_reducible refine BrG.nn ?_ | with_reducible refine BrG.ns ?_ | refine BrG.pos (by omega) ?_ | refine BrG.neg (by omega) ?_ | with_reducible refine BrG.pos rfl ?_ | refine BrG.pos (by assumption) ?_ | refine BrG.neg (by assumption) ?_) | refine Chk.mk (ptr_ok tblOk rfl rfl) ?_)
    rw [e1]
    repeat (first | refine SemW.run tblOk ?_ | refine IntG.nw (by omega) ?_ | refine IntG.nu8 (by omega) ?_ | refine IntG.nu32 (by omega) ?_ | refine IntG.nu64 (by omega) ?_ | refine IntG.wr' rfl ?_ | refine Chk.mk (by omega) ?_ | (refine BrG.id ?_; first | with_reducible refine BrG.t ?_ | with_reducible refine BrG.f ?_ | with_reducible refine BrG.notG ?_ | with_reducible refine BrG.nn ?_ | with_reducible refine BrG.ns ?_ | refine BrG.pos (by omega) ?_ | refine BrG.neg (by omega) ?_ | with_reducible refine BrG.pos rfl ?_ | refine BrG.pos (by assumption) ?_ | refine BrG.neg (by assumption) ?_) | refine Chk.mk (ptr_ok tblOk rfl rfl) ?_)
    rw [e2]
    repeat (first | refine SemW.run tblOk ?_ | refine IntG.nw (by omega) ?_ | refine IntG.nu8 (by omega) ?_ | refine IntG.nu32 (by omega) ?_ | refine IntG.nu64 (by omega) ?_ | refine IntG.wr' rfl ?_ | refine Chk.mk (by omega) ?_ | (refine BrG.id ?_; first | with_reducible refine BrG.t ?_ | with_reducible refine BrG.f ?_ | with_reducible refine BrG.notG ?_ | with_reducible refine BrG.nn ?_ | with_reducible refine BrG.ns ?_ | refine BrG.pos (by omega) ?_ | refine BrG.neg (by omega) ?_ | with_reducible refine BrG.pos rfl ?_ | refine BrG.pos (by assumption) ?_ | refine BrG.neg (by assumption) ?_) | refine Chk.mk (ptr_ok tblOk rfl rfl) ?_)
    exact ⟨i + 1, ⟨congrArg (Value.int .u32) (by rw [hst]; omega), rfl, rfl, trivial⟩, ⟨by omega, hS⟩, by omega⟩
  · have hin : i = n := by omega
    subst hin
    repeat (first | refine SemW.run tblOk ?_ | refine IntG.nw (by omega) ?_ | refine IntG.nu8 (by omega) ?_ | refine IntG.nu32 (by omega) ?_ | refine IntG.nu64 (by omega) ?_ | refine IntG.wr' rfl ?_ | refine Chk.mk (by omega) ?_ | (refine BrG.id ?_; first | with_reducible refine BrG.t ?_ | with_reducible refine BrG.f ?_ | with_reducible refine BrG.notG ?_ | with_reducible refine BrG.nn ?_ | with_reducible refine BrG.ns ?_ | refine BrG.pos (by omega) ?_ | refine BrG.neg (by omega) ?_ | with_reducible refine BrG.pos rfl ?_ | refine BrG.pos (by assumption) ?_ | refine BrG.neg (by assumption) ?_) | refine Chk.mk (ptr_ok tblOk rfl rfl) ?_)
    exact ⟨rfl, hS⟩
set_option maxHeartbeats 1000000 in
theorem shiftE_spec {w : World} (x n : Nat) (hx : x < 4294967296) (hn : n ≤ 32) : Cl Tryd.prog f_tarmacref19_shift [u32V x, .int .i64 n] w fun v w' => v = u32V (x / 2 ^ n) ∧ St w [] [] w' := by
  have hS := St.start w
  unfold u32V
  refine en_tarmacref19_shift rfl ?_
  repeat (first | refine SemW.run tblOk ?_ | refine IntG.nw (by omega) ?_ | refine IntG.nu8 (by omega) ?_ | refine IntG.nu32 (by omega) ?_ | refine IntG.nu64 (by omega) ?_ | refine IntG.wr' rfl ?_ | refine Chk.mk (by omega) ?_ | (refine BrG.id ?_; first | with_reducible refine BrG.t ?_ | with_reducible refine BrG.f ?_ | with_reducible refine BrG.notG ?_ | with_reducible refine BrG.nn ?_ | with_reducible refine BrG.ns ?_ | refine BrG.pos (by omega) ?_ | refine BrG.neg (by omega) ?_ | with_reducible refine BrG.pos rfl ?_ | refine BrG.pos (by assumption) ?_ | refine BrG.neg (by assumption) ?_) | refine Chk.mk (ptr_ok tblOk rfl rfl) ?_)
  refine SemW.loop (fun i : Nat => [(0, .int .u32 (x / 2 ^ i : Nat)), (1, .int .i64 n), (5, .int .i64 i)])
    (fun i w' => i ≤ n ∧ St w [] [] w') (fun i => n - i) 0
    ⟨congrArg (Value.int .u32) (by simp), rfl, rfl, trivial⟩ ⟨Nat.zero_le _, hS⟩ ?_
  rintro i w1 ⟨hi, hS⟩
  by_cases hin : i < n
  · have hst : x / 2 ^ (i + 1) = x / 2 ^ i / 2 := by rw [Nat.pow_succ, Nat.div_div_eq_div_mul]
    have hlt : x / 2 ^ i < 4294967296 := Nat.lt_of_le_of_lt (Nat.div_le_self _ _) hx
    generalize x / 2 ^ i = y at hst hlt ⊢
    have e2 : ((y : Int).tdiv 2) = ((y / 2 : Nat) : Int) := tdivN y 2
    repeat (first | refine SemW.run tblOk ?_ | refine IntG.nw (by omega) ?_ | refine IntG.nu8 (by omega) ?_ | refine IntG.nu32 (by omega) ?_ | refine IntG.nu64 (by omega) ?_ | refine IntG.wr' rfl ?_ | refine Chk.mk (by omega) ?_ | (refine BrG.id ?_; first | with_reducible refine BrG.t ?_ | with_reducible refine BrG.f ?_ | with_reducible refine BrG.notG ?_ | with_reducible refine BrG.nn ?_ | with_reducible refine BrG.ns ?_ | refine BrG.pos (by omega) ?_ | refine BrG.neg (by omega) ?_ | with_reducible refine BrG.pos rfl ?_ | refine BrG.pos (by assumption) ?_ | refine BrG.neg (by assumption) ?_) | refine Chk.mk (ptr_ok tblOk rfl rfl) ?_)
    rw [e2]
    repeat (first | refine SemW.run tblOk ?_ | refine IntG.nw (by omega) ?_ | refine IntG.nu8 (by omega) ?_ | refine IntG.nu32 (by omega) ?_ | refine IntG.nu64 (by omega) ?_ | refine IntG.wr' rfl ?_ | refine Chk.mk (by omega) ?_ | (refine BrG.id ?_; first | with_reducible refine BrG.t ?_ | with_reducible refine BrG.f ?_ | with_reducible refine BrG.notG ?_ | with_reducible refine BrG.nn ?_ | with_reducible refine BrG.ns ?_ | refine BrG.pos (by omega) ?_ | refine BrG.neg (by omega) ?_ | with_reducible refine BrG.pos rfl ?_ | refine BrG.pos (by assumption) ?_ | refine BrG.neg (by assumption) ?_) | refine Chk.mk (ptr_ok tblOk rfl rfl) ?_)
    exact ⟨i + 1, ⟨congrArg (Value.int .u32) (by rw [hst]), rfl, rfl, trivial⟩, ⟨by omega, hS⟩, by omega⟩
  · have hin : i = n := by omega
    subst hin
    repeat (first | refine SemW.run tblOk ?_ | refine IntG.nw (by omega) ?_ | refine IntG.nu8 (by omega) ?_ | refine IntG.nu32 (by omega) ?_ | refine IntG.nu64 (by omega) ?_ | refine IntG.wr' rfl ?_ | refine Chk.mk (by omega) ?_ | (refine BrG.id ?_; first | with_reducible refine BrG.t ?_ | with_reducible refine BrG.f ?_ | with_reducible refine BrG.notG ?_ | with_reducible refine BrG.nn ?_ | with_reducible refine BrG.ns ?_ | refine BrG.pos (by omega) ?_ | refine BrG.neg (by omega) ?_ | with_reducible refine BrG.pos rfl ?_ | refine BrG.pos (by assumption) ?_ | refine BrG.neg (by assumption) ?_) | refine Chk.mk (ptr_ok tblOk rfl rfl) ?_)
    exact ⟨rfl, hS⟩
set_option maxHeartbeats 1000000 in
set_option maxRecDepth 4000 in
theorem kE_spec {w : World} (i : Nat) (hi : i < 64) : Cl Tryd.prog f_tarmacref19_k [.int .i64 i] w fun v w' => v = u32V (kList.getD i 0) ∧ St w [] [] w' := by
  have hS := St.start w
  refine en_tarmacref19_k rfl ?_
  repeat (first | refine SemW.run tblOk ?_ | refine IntG.nw (by omega) ?_ | refine IntG.nu8 (by omega) ?_ | refine IntG.nu32 (by omega) ?_ | refine IntG.nu64 (by omega) ?_ | refine IntG.wr' rfl ?_ | refine Chk.mk (by omega) ?_ | (refine BrG.id ?_; first | with_reducible refine BrG.t ?_ | with_reducible refine BrG.f ?_ | with_reducible refine BrG.notG ?_ | with_reducible refine BrG.nn ?_ | with_reducible refine BrG.ns ?_ | refine BrG.pos (by omega) ?_ | refine BrG.neg (by omega) ?_ | with_reducible refine BrG.pos rfl ?_ | refine BrG.pos (by assumption) ?_ | refine BrG.neg (by assumption) ?_) | refine Chk.mk (ptr_ok tblOk rfl rfl) ?_)
  refine hS.al ?_
  intro b w1 _ hS
  repeat (first | refine SemW.run tblOk ?_ | refine IntG.nw (by omega) ?_ | refine IntG.nu8 (by omega) ?_ | refine IntG.nu32 (by omega) ?_ | refine IntG.nu64 (by omega) ?_ | refine IntG.wr' rfl ?_ | refine Chk.mk (by omega) ?_ | (refine BrG.id ?_; first | with_reducible refine BrG.t ?_ | with_reducible refine BrG.f ?_ | with_reducible refine BrG.notG ?_ | with_reducible refine BrG.nn ?_ | with_reducible refine BrG.ns ?_ | refine BrG.pos (by omega) ?_ | refine BrG.neg (by omega) ?_ | with_reducible refine BrG.pos rfl ?_ | refine BrG.pos (by assumption) ?_ | refine BrG.neg (by assumption) ?_) | refine Chk.mk (ptr_ok tblOk rfl rfl) ?_ | refine hS.ld rfl ?_ | refine hS.ldn rfl ?_ | (refine hS.st rfl rfl ?_; intro _ hS))
  have hg : (kList.map u32V)[0 + ((i : Int)).toNat * 1]? = some (u32V (kList.getD i 0)) := by
    have hk : kList.length = 64 := by decide
    rw [show 0 + ((i : Int)).toNat * 1 = i by omega, List.getElem?_map]
    simp [show i < kList.length by omega]
  refine hS.ld (v := u32V (kList.getD i 0)) hg ?_
  repeat (first | refine SemW.run tblOk ?_ | refine IntG.nw (by omega) ?_ | refine IntG.nu8 (by omega) ?_ | refine IntG.nu32 (by omega) ?_ | refine IntG.nu64 (by omega) ?_ | refine IntG.wr' rfl ?_ | refine Chk.mk (by omega) ?_ | (refine BrG.id ?_; first | with_reducible refine BrG.t ?_ | with_reducible refine BrG.f ?_ | with_reducible refine BrG.notG ?_ | with_reducible refine BrG.nn ?_ | with_reducible refine BrG.ns ?_ | refine BrG.pos (by omega) ?_ | refine BrG.neg (by omega) ?_ | with_reducible refine BrG.pos rfl ?_ | refine BrG.pos (by assumption) ?_ | refine BrG.neg (by assumption) ?_) | refine Chk.mk (ptr_ok tblOk rfl rfl) ?_)
  exact ⟨rfl, hS.nil⟩
/-- The word at byte 4 i, of its first j bytes. -/
def partW (b : Bytes) (i : Nat) : Nat → Nat
  | 0 => 0
  | j + 1 => 256 * partW b i j + (b.getD (4 * i + j) 0).toNat
theorem partW_lt (b : Bytes) (i : Nat) : ∀ j, partW b i j < 256 ^ j
  | 0 => by simp [partW]
  | j + 1 => by
    have ih := partW_lt b i j
    have h := (b.getD (4 * i + j) 0).toNat_lt
    rw [partW, Nat.pow_succ]
    generalize 256 ^ j = P at *
    omega
theorem partW_four (b : Bytes) (i : Nat) : partW b i 4 = wordAt b i := by
  simp only [partW, wordAt, Nat.add_zero]; omega
theorem wsC_zero (ws : List Nat) (h : ws.length < 64) : wsC (ws ++ [0]) = wsC ws := by
  unfold wsC
  obtain ⟨m, hm⟩ : ∃ m, 64 - ws.length = m + 1 := ⟨63 - ws.length, by omega⟩
  rw [hm, List.length_append, List.length_singleton, show 64 - (ws.length + 1) = m by omega, List.replicate_succ]
  simp
theorem wsC_upd (ws : List Nat) (x y : Nat) : (wsC (ws ++ [x])).set ws.length (u32V y) = wsC (ws ++ [y]) := by
  unfold wsC
  simp only [List.map_append, List.map_cons, List.map_nil, List.append_assoc, List.length_append, List.length_singleton]
  rw [List.set_append_right _ _ (by simp)]
  simp
theorem wsC_full (ws : List Nat) (h : ws.length = 64) : wsC ws = ws.map u32V := by
  unfold wsC; rw [h]; simp
end Go.Proofs.YtklppplnkpnbhaaDoor
