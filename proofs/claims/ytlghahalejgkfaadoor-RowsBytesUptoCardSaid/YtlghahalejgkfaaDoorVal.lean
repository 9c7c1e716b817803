/- Package rows: the values of records. -/
import Derived.Test.YtlghahalejgkfaaDoorOpenS
import Derived.Test.YtlghahalejgkfaaDoorKey
import Derived.Test.YtlghahalejgkfaaDoorPack
import Derived.Test.YtlghahalejgkfaaDoorLabel
import Derived.Test.YtlghahalejgkfaaDoorArrays
import Derived.Test.YtlghahalejgkfaaDoorEq
namespace Go.Eng
open Go
theorem nodup_chunk {w0 w : World} {T : List Nat} {b : Nat} {o : Obj} {H L : Heap} {F : Heap → Heap} (hS : St w0 T ((b, o) :: H) w) [hc : Chunk H L F] : b ∉ keys L := by
  obtain ⟨A, B, h1, -⟩ := hc.at_
  have := hS.nd
  rw [h1] at this
  simp only [keys, List.map_cons, List.map_append, List.nodup_cons] at this
  intro h
  exact this.1 (List.mem_append_right _ (List.mem_append_left _ h))
/-- A row of the call's own, from a place on. -/
theorem St.arrAt {w0 w : World} {T : List Nat} {H : Heap} {b off : Nat} {l xs : List Value} {t : TypeId} {fz : Nat × Nat} {F : Obj → Heap} (hS : St w0 T H w) [Slot H b (.cells ⟨l⟩ t fz) F]
    (hx : (l.drop off).take xs.length = xs) {T' : List Nat} (hb : b ∉ T') : Arr w T' (some ⟨b, off, none⟩) xs := fun j x hj => ⟨b, off, rfl, hb, by
      rw [← hx, List.getElem?_take] at hj
      split at hj
      · rw [List.getElem?_drop] at hj; exact hS.cell hj
      · cases hj⟩
end Go.Eng
namespace Go.Proofs.YtlghahalejgkfaaDoor
open Go Go.Eng Go.Proofs

/-- What was handed in stays. -/
theorem RSl.keep {β : Type} {sz : Nat} {R : CellR β} {w0 w : World} {H : Heap} (hS : St w0 [] H w) (hR : ∀ cs x, R w0 cs x → R w cs x) {cs : List Value} {xs : List β} (h : RSl sz R w0 cs xs) : RSl sz R w cs xs := by
  obtain ⟨a, cap, h1, h2, h3, h4⟩ := h.ex
  refine ⟨a, cap, h1, h2, h3, fun j hj => ?_⟩
  obtain ⟨b, off, cs', h5, h6, h7, h8⟩ := h4 j hj
  exact ⟨b, off, cs', h5, h6, fun i v hv => hS.oldCell (by simp) (h7 i v hv), hR _ _ h8⟩
/-- The j-th struct of a slice that was handed in, loaded. -/
theorem RSl.ldn {β : Type} {sz : Nat} {R : CellR β} {w0 w : World} {H : Heap} (hS : St w0 [] H w) {a : Option Addr} {n cap : Nat} {xs : List β} (h : RSl sz R w0 [.slice a n cap] xs) {j : Nat} (hj : j < xs.length) :
    ∃ b off cs, a = some ⟨b, off, none⟩ ∧ R w0 cs xs[j] ∧ ∀ K : List Value → Prop, K cs → LdN (fun w' => w = w') sz b (off + j * sz) K := by
  obtain ⟨b, off, cs, h1, h2, h3, h4⟩ := h.at hj
  refine ⟨b, off, cs, h1, h4, fun K hK => ⟨⟨cs, h2, fun _ e i v hv => ?_, hK⟩⟩⟩
  subst e
  have := hS.oldCell (by simp) (h3 i v hv)
  rw [← Nat.add_assoc] at this
  exact this
/-- Marks as one number. -/
def marksN : List Bool → Nat
  | [] => 0
  | b :: l => (if b then 1 else 0) + 2 * marksN l
theorem marksN_lt : ∀ l, marksN l < 2 ^ l.length
  | [] => by simp [marksN]
  | b :: l => by
    have := marksN_lt l
    rw [marksN, List.length_cons, Nat.pow_succ]
    split <;> omega
theorem marksN_snoc : ∀ (l : List Bool) (b : Bool), marksN (l ++ [b]) = marksN l + (if b then 2 ^ l.length else 0)
  | [], b => by simp [marksN]
  | c :: l, b => by
    rw [List.cons_append, marksN, marksN_snoc l b, marksN, List.length_cons, Nat.pow_succ]
    split <;> split <;> omega
set_option maxHeartbeats 1000000 in
theorem marks_spec {w : World} {b : Nat} {bs : Bytes} {L : Heap} (hW : PackW b bs L) (hh : Holds L w) {a : Option Addr} {cap : Nat} {l : List Bool} (ha : Arr w (keys L) a (l.map Value.bool)) (hl : l.length ≤ 8) (hlen : bs.length ≤ 70368744177664) :
    Cl Tryd.prog f_rows_writer_marks [.agg ⟨[ptr b]⟩, .slice a l.length cap] w fun _ w' => ∃ L', PackW b (bs ++ numB (marksN l)) L' ∧ St w (keys L) L' w' := by
  have hS := St.enter hh
  generalize hT : keys L = T0 at hS ha ⊢
  refine en_rows_writer_marks rfl ?_
  repeat (first | refine SemW.run tblOk ?_ | refine IntG.nw (by omega) ?_ | refine IntG.nu8 (by omega) ?_ | refine IntG.nu32 (by omega) ?_ | refine IntG.nu64 (by omega) ?_ | refine IntG.wr' rfl ?_ | refine Chk.mk (by omega) ?_ | (refine BrG.id ?_; first | with_reducible refine BrG.t ?_ | with_reducible refine BrG.f ?_ | with_reducible refine BrG.notG ?_ | with_reducible refine BrG.nn ?_ | with_reducible refine BrG.ns ?_ | refine BrG.pos (by omega) ?_ | refine BrG.neg (by omega) ?_ | with_reducible refine BrG.pos rfl ?_ | refine BrG.pos (by assumption) ?_ | refine BrG.neg (by assumption) ?_ | refine BrG.pos (by decide) ?_ | refine BrG.neg (by decide) ?_) | refine Chk.mk (ptr_ok tblOk rfl rfl) ?_ | refine Chk.mk (by decide) ?_)
  refine hS.al ?_
  intro tb w1 _ hS
  repeat (first | refine SemW.run tblOk ?_ | refine IntG.nw (by omega) ?_ | refine IntG.nu8 (by omega) ?_ | refine IntG.nu32 (by omega) ?_ | refine IntG.nu64 (by omega) ?_ | refine IntG.wr' rfl ?_ | refine Chk.mk (by omega) ?_ | (refine BrG.id ?_; first | with_reducible refine BrG.t ?_ | with_reducible refine BrG.f ?_ | with_reducible refine BrG.notG ?_ | with_reducible refine BrG.nn ?_ | with_reducible refine BrG.ns ?_ | refine BrG.pos (by omega) ?_ | refine BrG.neg (by omega) ?_ | with_reducible refine BrG.pos rfl ?_ | refine BrG.pos (by assumption) ?_ | refine BrG.neg (by assumption) ?_ | refine BrG.pos (by decide) ?_ | refine BrG.neg (by decide) ?_) | refine Chk.mk (ptr_ok tblOk rfl rfl) ?_ | refine Chk.mk (by decide) ?_)
  refine SemW.loop (fun k : Nat => [(2, ptr tb), (4, .int .u64 (marksN (l.take k) : Nat)), (7, .slice a l.length cap), (8, .int .i64 l.length), (9, .int .i64 k)])
    (fun k w' => k ≤ l.length ∧ St w T0 ((tb, .cells ⟨[ptr b]⟩ T_rows_writer (0, 0)) :: L) w') (fun k => l.length - k) 0
    ⟨rfl, rfl, rfl, rfl, rfl, trivial⟩ ⟨Nat.zero_le _, hS⟩ ?_
  rintro k w2 ⟨hk, hS⟩
  by_cases hkl : k < l.length
  · obtain ⟨b', off', rfl, hbT, hck⟩ := ha.get (j := k) (by simp; omega)
    simp only [List.getElem_map] at hck
    have hsn := marksN_snoc (l.take k) l[k]
    rw [← List.take_succ_eq_append_getElem hkl] at hsn
    have hlt := marksN_lt (l.take k)
    have htk : (l.take k).length = k := by simp; omega
    rw [htk] at hlt hsn
    have hk8 : 2 ^ k ≤ 2 ^ 7 := Nat.pow_le_pow_right (by omega) (by omega)
    generalize marksN (l.take k) = m at hsn hlt ⊢
    repeat (first | refine SemW.run tblOk ?_ | refine IntG.nw (by omega) ?_ | refine IntG.nu8 (by omega) ?_ | refine IntG.nu32 (by omega) ?_ | refine IntG.nu64 (by omega) ?_ | refine IntG.wr' rfl ?_ | refine Chk.mk (by omega) ?_ | (refine BrG.id ?_; first | with_reducible refine BrG.t ?_ | with_reducible refine BrG.f ?_ | with_reducible refine BrG.notG ?_ | with_reducible refine BrG.nn ?_ | with_reducible refine BrG.ns ?_ | refine BrG.pos (by omega) ?_ | refine BrG.neg (by omega) ?_ | with_reducible refine BrG.pos rfl ?_ | refine BrG.pos (by assumption) ?_ | refine BrG.neg (by assumption) ?_ | refine BrG.pos (by decide) ?_ | refine BrG.neg (by decide) ?_) | refine Chk.mk (ptr_ok tblOk rfl rfl) ?_ | refine Chk.mk (by decide) ?_)
    refine hS.ldOld hbT (by simpa using hck) ?_
    generalize l[k] = bit at hsn ⊢
    cases bit with
    | true =>
      simp only [if_true] at hsn
      have e1 : orI .u64 (m : Int) (IntKind.u64.wrap (1 * 2 ^ (min ((k : Int)).toNat IntKind.u64.bits))) = ((m + 2 ^ k : Nat) : Int) := by
        rw [show min ((k : Int)).toNat IntKind.u64.bits = k by show min _ 64 = _; omega]
        have e2 : (1 : Int) * 2 ^ k = ((2 ^ k : Nat) : Int) := by simp
        have e3 : 2 ^ k % 2 ^ IntKind.u64.bits = 2 ^ k := Nat.mod_eq_of_lt (show 2 ^ k < 18446744073709551616 by omega)
        rw [e2, wrapU .u64 rfl, e3, orU .u64 rfl _ _ (show m < 18446744073709551616 by omega) (show 2 ^ k < 18446744073709551616 by omega), Nat.or_comm]
        have := or_add 1 m k hlt
        rw [Nat.one_mul] at this
        rw [this, Nat.add_comm]
      repeat (first | refine SemW.run tblOk ?_ | refine IntG.nw (by omega) ?_ | refine IntG.nu8 (by omega) ?_ | refine IntG.nu32 (by omega) ?_ | refine IntG.nu64 (by omega) ?_ | refine IntG.wr' rfl ?_ | refine Chk.mk (by omega) ?_ | (refine BrG.id ?_; first | with_reducible refine BrG.t ?_ | with_reducible refine BrG.f ?_ | with_reducible refine BrG.notG ?_ | with_reducible refine BrG.nn ?_ | with_reducible refine BrG.ns ?_ | refine BrG.pos (by omega) ?_ | refine BrG.neg (by omega) ?_ | with_reducible refine BrG.pos rfl ?_ | refine BrG.pos (by assumption) ?_ | refine BrG.neg (by assumption) ?_ | refine BrG.pos (by decide) ?_ | refine BrG.neg (by decide) ?_) | refine Chk.mk (ptr_ok tblOk rfl rfl) ?_ | refine Chk.mk (by decide) ?_)
      rw [e1]
      repeat (first | refine SemW.run tblOk ?_ | refine IntG.nw (by omega) ?_ | refine IntG.nu8 (by omega) ?_ | refine IntG.nu32 (by omega) ?_ | refine IntG.nu64 (by omega) ?_ | refine IntG.wr' rfl ?_ | refine Chk.mk (by omega) ?_ | (refine BrG.id ?_; first | with_reducible refine BrG.t ?_ | with_reducible refine BrG.f ?_ | with_reducible refine BrG.notG ?_ | with_reducible refine BrG.nn ?_ | with_reducible refine BrG.ns ?_ | refine BrG.pos (by omega) ?_ | refine BrG.neg (by omega) ?_ | with_reducible refine BrG.pos rfl ?_ | refine BrG.pos (by assumption) ?_ | refine BrG.neg (by assumption) ?_ | refine BrG.pos (by decide) ?_ | refine BrG.neg (by decide) ?_) | refine Chk.mk (ptr_ok tblOk rfl rfl) ?_ | refine Chk.mk (by decide) ?_)
      exact ⟨k + 1, ⟨rfl, congrArg (Value.int .u64) (by rw [hsn]), rfl, rfl, rfl, trivial⟩, ⟨by omega, hS⟩, by omega⟩
    | false =>
      simp only [Bool.false_eq_true, if_false, Nat.add_zero] at hsn
      repeat (first | refine SemW.run tblOk ?_ | refine IntG.nw (by omega) ?_ | refine IntG.nu8 (by omega) ?_ | refine IntG.nu32 (by omega) ?_ | refine IntG.nu64 (by omega) ?_ | refine IntG.wr' rfl ?_ | refine Chk.mk (by omega) ?_ | (refine BrG.id ?_; first | with_reducible refine BrG.t ?_ | with_reducible refine BrG.f ?_ | with_reducible refine BrG.notG ?_ | with_reducible refine BrG.nn ?_ | with_reducible refine BrG.ns ?_ | refine BrG.pos (by omega) ?_ | refine BrG.neg (by omega) ?_ | with_reducible refine BrG.pos rfl ?_ | refine BrG.pos (by assumption) ?_ | refine BrG.neg (by assumption) ?_ | refine BrG.pos (by decide) ?_ | refine BrG.neg (by decide) ?_) | refine Chk.mk (ptr_ok tblOk rfl rfl) ?_ | refine Chk.mk (by decide) ?_)
      exact ⟨k + 1, ⟨rfl, congrArg (Value.int .u64) (by rw [hsn]), rfl, rfl, rfl, trivial⟩, ⟨by omega, hS⟩, by omega⟩
  · have hke : k = l.length := by omega
    subst hke
    rw [List.take_length]
    have hlt := marksN_lt l
    have hk8 : 2 ^ l.length ≤ 2 ^ 8 := Nat.pow_le_pow_right (by omega) hl
    repeat (first | refine SemW.run tblOk ?_ | refine IntG.nw (by omega) ?_ | refine IntG.nu8 (by omega) ?_ | refine IntG.nu32 (by omega) ?_ | refine IntG.nu64 (by omega) ?_ | refine IntG.wr' rfl ?_ | refine Chk.mk (by omega) ?_ | (refine BrG.id ?_; first | with_reducible refine BrG.t ?_ | with_reducible refine BrG.f ?_ | with_reducible refine BrG.notG ?_ | with_reducible refine BrG.nn ?_ | with_reducible refine BrG.ns ?_ | refine BrG.pos (by omega) ?_ | refine BrG.neg (by omega) ?_ | with_reducible refine BrG.pos rfl ?_ | refine BrG.pos (by assumption) ?_ | refine BrG.neg (by assumption) ?_ | refine BrG.pos (by decide) ?_ | refine BrG.neg (by decide) ?_) | refine Chk.mk (ptr_ok tblOk rfl rfl) ?_ | refine Chk.mk (by decide) ?_ | refine hS.ld rfl ?_ | refine hS.ldn rfl ?_ | (refine hS.st rfl rfl ?_; intro _ hS))
    refine hS.al ?_
    intro r w3 _ hS
    repeat (first | refine SemW.run tblOk ?_ | refine IntG.nw (by omega) ?_ | refine IntG.nu8 (by omega) ?_ | refine IntG.nu32 (by omega) ?_ | refine IntG.nu64 (by omega) ?_ | refine IntG.wr' rfl ?_ | refine Chk.mk (by omega) ?_ | (refine BrG.id ?_; first | with_reducible refine BrG.t ?_ | with_reducible refine BrG.f ?_ | with_reducible refine BrG.notG ?_ | with_reducible refine BrG.nn ?_ | with_reducible refine BrG.ns ?_ | refine BrG.pos (by omega) ?_ | refine BrG.neg (by omega) ?_ | with_reducible refine BrG.pos rfl ?_ | refine BrG.pos (by assumption) ?_ | refine BrG.neg (by assumption) ?_ | refine BrG.pos (by decide) ?_ | refine BrG.neg (by decide) ?_) | refine Chk.mk (ptr_ok tblOk rfl rfl) ?_ | refine Chk.mk (by decide) ?_ | refine hS.ld rfl ?_ | refine hS.ldn rfl ?_ | (refine hS.st rfl rfl ?_; intro _ hS))
    refine Cl.mono (Num_spec hW (hS.part (L := L)) (ns := [marksN l]) (hS.arr (b := r) (nodup_chunk hS)) (by intro n hn; simp only [List.mem_cons, List.mem_nil_iff, or_false] at hn; subst hn; omega) (by simp) (by simp; omega)) ?_
    rintro _ w4 ⟨L1, hW1, hS'⟩
    have hS := hS.call (L := L) hS'
    repeat (first | refine SemW.run tblOk ?_ | refine IntG.nw (by omega) ?_ | refine IntG.nu8 (by omega) ?_ | refine IntG.nu32 (by omega) ?_ | refine IntG.nu64 (by omega) ?_ | refine IntG.wr' rfl ?_ | refine Chk.mk (by omega) ?_ | (refine BrG.id ?_; first | with_reducible refine BrG.t ?_ | with_reducible refine BrG.f ?_ | with_reducible refine BrG.notG ?_ | with_reducible refine BrG.nn ?_ | with_reducible refine BrG.ns ?_ | refine BrG.pos (by omega) ?_ | refine BrG.neg (by omega) ?_ | with_reducible refine BrG.pos rfl ?_ | refine BrG.pos (by assumption) ?_ | refine BrG.neg (by assumption) ?_ | refine BrG.pos (by decide) ?_ | refine BrG.neg (by decide) ?_) | refine Chk.mk (ptr_ok tblOk rfl rfl) ?_ | refine Chk.mk (by decide) ?_)
    refine ⟨L1, ?_, hS.sub ((List.sublist_cons_self _ _).trans (List.sublist_cons_self _ _))⟩
    simpa using hW1
def rowB (r : RowM) : Bytes := intsB [r.num, r.cab, r.zone] ++ (numB (marksN [r.exit]) ++ textsB [r.seats])
def rowsBt (rs : List RowM) : Bytes := (rs.map rowB).flatten
def equipB (e : EquipM) : Bytes := numB e.rows.length ++ rowsBt e.rows
theorem i64ok_of {n : Int} (h : i64b n) : i64ok n := h
theorem rowB_len (r : RowM) (h : r.ok) (hs : r.seats.length ≤ 1048576) : (rowB r).length ≤ 50 + r.seats.length := by
  have h1 := ints_len [r.num, r.cab, r.zone] (by
    intro z hz
    simp only [List.mem_cons, List.mem_nil_iff, or_false] at hz
    rcases hz with rfl | rfl | rfl
    · exact h.num
    · exact h.cab
    · exact h.zone)
  have h2 := texts_len [r.seats] (by simp [sumLen]; omega)
  have h3 := marksN_lt [r.exit]
  have h4 := numB_len10 (marksN [r.exit]) (by have h3' : marksN [r.exit] < 2 := h3; omega)
  have h5 : sumLen [r.seats] = r.seats.length := by simp [sumLen]
  simp only [List.length_cons, List.length_nil] at h1 h2
  unfold rowB
  simp only [List.length_append]; omega
def rowsW (rs : List RowM) : Nat := (rs.map fun r => r.seats.length + 6).sum
theorem rowsW_at (rs : List RowM) (k : Nat) (hk : k < rs.length) : rs[k].seats.length + 6 ≤ rowsW rs := by
  induction rs generalizing k with
  | nil => simp at hk
  | cons r rs ih =>
    unfold rowsW at *
    rw [List.map_cons, List.sum_cons]
    cases k with
    | zero => simp
    | succ k => have := ih k (by simpa using hk); rw [List.getElem_cons_succ]; omega
theorem rowsW_len (rs : List RowM) : 6 * rs.length ≤ rowsW rs := by
  induction rs with
  | nil => simp
  | cons r rs ih => unfold rowsW at *; rw [List.map_cons, List.sum_cons, List.length_cons]; omega
theorem rowsBt_len (rs : List RowM) (h : ∀ r ∈ rs, r.ok) (hw : rowsW rs ≤ 1048576) : (rowsBt rs).length ≤ 50 * rowsW rs := by
  induction rs with
  | nil => simp [rowsBt]
  | cons r rs ih =>
    have h1 : rowsW (r :: rs) = r.seats.length + 6 + rowsW rs := by simp [rowsW]
    have h2 := rowB_len r (h r List.mem_cons_self) (by omega)
    have h3 := ih (fun q hq => h q (List.mem_cons_of_mem _ hq)) (by omega)
    simp only [rowsBt, List.map_cons, List.flatten_cons, List.length_append] at h3 ⊢
    omega
theorem rowsBt_succ (rs : List RowM) (k : Nat) (hk : k < rs.length) : rowsBt (rs.take (k + 1)) = rowsBt (rs.take k) ++ rowB rs[k] := by
  unfold rowsBt
  rw [List.take_succ_eq_append_getElem hk, List.map_append, List.flatten_append]; simp
theorem rowsW_take (rs : List RowM) (k : Nat) : rowsW (rs.take k) ≤ rowsW rs := by
  have h := congrArg (fun l => (l.map fun r : RowM => r.seats.length + 6).sum) (List.take_append_drop k rs)
  simp only [List.map_append, List.sum_append] at h
  unfold rowsW; omega
set_option maxHeartbeats 4000000 in
theorem equip_spec {w : World} (e : EquipM) {a : Option Addr} {cap : Nat} (hR : RSl 5 RRow w [.slice a e.rows.length cap] e.rows) (hok : ∀ r ∈ e.rows, r.ok) (hw : rowsW e.rows ≤ 1048576) :
    Cl Tryd.prog f_rows_equip [.agg ⟨[.int .i64 e.id, .slice a e.rows.length cap]⟩] w fun v w' => v = Str (equipB e) ∧ St w [] [] w' := by
  have hS := St.start w
  have hwl := rowsW_len e.rows
  refine en_rows_equip rfl ?_
  repeat (first | refine SemW.run tblOk ?_ | refine IntG.nw (by omega) ?_ | refine IntG.nu8 (by omega) ?_ | refine IntG.nu32 (by omega) ?_ | refine IntG.nu64 (by omega) ?_ | refine IntG.wr' rfl ?_ | refine Chk.mk (by omega) ?_ | (refine BrG.id ?_; first | with_reducible refine BrG.t ?_ | with_reducible refine BrG.f ?_ | with_reducible refine BrG.notG ?_ | with_reducible refine BrG.nn ?_ | with_reducible refine BrG.ns ?_ | refine BrG.pos (by omega) ?_ | refine BrG.neg (by omega) ?_ | with_reducible refine BrG.pos rfl ?_ | refine BrG.pos (by assumption) ?_ | refine BrG.neg (by assumption) ?_ | refine BrG.pos (by decide) ?_ | refine BrG.neg (by decide) ?_) | refine Chk.mk (ptr_ok tblOk rfl rfl) ?_ | refine Chk.mk (by decide) ?_)
  refine hS.al ?_
  intro b1 w1 _ hS
  repeat (first | refine SemW.run tblOk ?_ | refine IntG.nw (by omega) ?_ | refine IntG.nu8 (by omega) ?_ | refine IntG.nu32 (by omega) ?_ | refine IntG.nu64 (by omega) ?_ | refine IntG.wr' rfl ?_ | refine Chk.mk (by omega) ?_ | (refine BrG.id ?_; first | with_reducible refine BrG.t ?_ | with_reducible refine BrG.f ?_ | with_reducible refine BrG.notG ?_ | with_reducible refine BrG.nn ?_ | with_reducible refine BrG.ns ?_ | refine BrG.pos (by omega) ?_ | refine BrG.neg (by omega) ?_ | with_reducible refine BrG.pos rfl ?_ | refine BrG.pos (by assumption) ?_ | refine BrG.neg (by assumption) ?_ | refine BrG.pos (by decide) ?_ | refine BrG.neg (by decide) ?_) | refine Chk.mk (ptr_ok tblOk rfl rfl) ?_ | refine Chk.mk (by decide) ?_)
  refine Cl.mono PNew_spec ?_
  rintro _ w2 ⟨pb, L, rfl, hW, hS'⟩
  have hS := hS.callNew hS'
  repeat (first | refine SemW.run tblOk ?_ | refine IntG.nw (by omega) ?_ | refine IntG.nu8 (by omega) ?_ | refine IntG.nu32 (by omega) ?_ | refine IntG.nu64 (by omega) ?_ | refine IntG.wr' rfl ?_ | refine Chk.mk (by omega) ?_ | (refine BrG.id ?_; first | with_reducible refine BrG.t ?_ | with_reducible refine BrG.f ?_ | with_reducible refine BrG.notG ?_ | with_reducible refine BrG.nn ?_ | with_reducible refine BrG.ns ?_ | refine BrG.pos (by omega) ?_ | refine BrG.neg (by omega) ?_ | with_reducible refine BrG.pos rfl ?_ | refine BrG.pos (by assumption) ?_ | refine BrG.neg (by assumption) ?_ | refine BrG.pos (by decide) ?_ | refine BrG.neg (by decide) ?_) | refine Chk.mk (ptr_ok tblOk rfl rfl) ?_ | refine Chk.mk (by decide) ?_)
  refine hS.al ?_
  intro b3 w3 _ hS
  repeat (first | refine SemW.run tblOk ?_ | refine IntG.nw (by omega) ?_ | refine IntG.nu8 (by omega) ?_ | refine IntG.nu32 (by omega) ?_ | refine IntG.nu64 (by omega) ?_ | refine IntG.wr' rfl ?_ | refine Chk.mk (by omega) ?_ | (refine BrG.id ?_; first | with_reducible refine BrG.t ?_ | with_reducible refine BrG.f ?_ | with_reducible refine BrG.notG ?_ | with_reducible refine BrG.nn ?_ | with_reducible refine BrG.ns ?_ | refine BrG.pos (by omega) ?_ | refine BrG.neg (by omega) ?_ | with_reducible refine BrG.pos rfl ?_ | refine BrG.pos (by assumption) ?_ | refine BrG.neg (by assumption) ?_ | refine BrG.pos (by decide) ?_ | refine BrG.neg (by decide) ?_) | refine Chk.mk (ptr_ok tblOk rfl rfl) ?_ | refine Chk.mk (by decide) ?_ | refine hS.ld rfl ?_ | refine hS.ldn rfl ?_ | (refine hS.st rfl rfl ?_; intro _ hS))
  rename_i w3'
  have hS : St w [] ((b3, .cells ⟨[ptr pb]⟩ T_rows_writer (0, 0)) :: (L ++ [(b1, .cells ⟨[.int .i64 e.id, .slice a e.rows.length cap]⟩ T_api_Equip (0, 0))])) w3' := hS
  refine hS.al ?_
  intro r w4 _ hS
  repeat (first | refine SemW.run tblOk ?_ | refine IntG.nw (by omega) ?_ | refine IntG.nu8 (by omega) ?_ | refine IntG.nu32 (by omega) ?_ | refine IntG.nu64 (by omega) ?_ | refine IntG.wr' rfl ?_ | refine Chk.mk (by omega) ?_ | (refine BrG.id ?_; first | with_reducible refine BrG.t ?_ | with_reducible refine BrG.f ?_ | with_reducible refine BrG.notG ?_ | with_reducible refine BrG.nn ?_ | with_reducible refine BrG.ns ?_ | refine BrG.pos (by omega) ?_ | refine BrG.neg (by omega) ?_ | with_reducible refine BrG.pos rfl ?_ | refine BrG.pos (by assumption) ?_ | refine BrG.neg (by assumption) ?_ | refine BrG.pos (by decide) ?_ | refine BrG.neg (by decide) ?_) | refine Chk.mk (ptr_ok tblOk rfl rfl) ?_ | refine Chk.mk (by decide) ?_ | refine hS.ld rfl ?_ | refine hS.ldn rfl ?_ | (refine hS.st rfl rfl ?_; intro _ hS))
  refine Cl.mono (Num_spec hW (hS.part (L := L)) (ns := [e.rows.length]) (hS.arr (b := r) (nodup_chunk hS)) (by intro n hn; simp only [List.mem_cons, List.mem_nil_iff, or_false] at hn; subst hn; omega) (by simp) (by simp)) ?_
  rintro _ w5 ⟨L1, hW, hS'⟩
  have hS := hS.call (L := L) hS'
  have hW : PackW pb (numB e.rows.length) L1 := by simpa using hW
  have hS := hS.sub (List.sublist_cons_self _ _)
  have hnl := numB_len10 e.rows.length (by omega)
  repeat (first | refine SemW.run tblOk ?_ | refine IntG.nw (by omega) ?_ | refine IntG.nu8 (by omega) ?_ | refine IntG.nu32 (by omega) ?_ | refine IntG.nu64 (by omega) ?_ | refine IntG.wr' rfl ?_ | refine Chk.mk (by omega) ?_ | (refine BrG.id ?_; first | with_reducible refine BrG.t ?_ | with_reducible refine BrG.f ?_ | with_reducible refine BrG.notG ?_ | with_reducible refine BrG.nn ?_ | with_reducible refine BrG.ns ?_ | refine BrG.pos (by omega) ?_ | refine BrG.neg (by omega) ?_ | with_reducible refine BrG.pos rfl ?_ | refine BrG.pos (by assumption) ?_ | refine BrG.neg (by assumption) ?_ | refine BrG.pos (by decide) ?_ | refine BrG.neg (by decide) ?_) | refine Chk.mk (ptr_ok tblOk rfl rfl) ?_ | refine Chk.mk (by decide) ?_ | refine hS.ld rfl ?_ | refine hS.ldn rfl ?_ | (refine hS.st rfl rfl ?_; intro _ hS))
  refine SemW.loop (fun k : Nat => [(3, ptr b3), (17, .slice a e.rows.length cap), (18, .int .i64 e.rows.length), (19, .int .i64 k)])
    (fun k w' => k ≤ e.rows.length ∧ ∃ L, PackW pb (numB e.rows.length ++ rowsBt (e.rows.take k)) L ∧ St w [] ((b3, .cells ⟨[ptr pb]⟩ T_rows_writer (0, 0)) :: (L ++ [(b1, .cells ⟨[.int .i64 e.id, .slice a e.rows.length cap]⟩ T_api_Equip (0, 0))])) w') (fun k => e.rows.length - k) 0
    ⟨rfl, rfl, rfl, rfl, trivial⟩ ⟨Nat.zero_le _, L1, by simpa [rowsBt] using hW, hS⟩ ?_
  clear hS hW hS'
  rintro k w6 ⟨hk, L2, hW, hS⟩
  have htw := rowsW_take e.rows k
  have hbl := rowsBt_len (e.rows.take k) (fun r hr => hok r (List.mem_of_mem_take hr)) (by omega)
  by_cases hkl : k < e.rows.length
  · obtain ⟨g, off, cs, rfl, ⟨rfl, hrok⟩, hld⟩ := RSl.ldn (hS.sub (H' := []) (List.nil_sublist _)) hR hkl
    have hsucc := rowsBt_succ e.rows k hkl
    have hat := rowsW_at e.rows k hkl
    generalize e.rows[k] = row at hrok hld hat hsucc
    have hrl := rowB_len row hrok (by omega)
    repeat (first | refine SemW.run tblOk ?_ | refine IntG.nw (by omega) ?_ | refine IntG.nu8 (by omega) ?_ | refine IntG.nu32 (by omega) ?_ | refine IntG.nu64 (by omega) ?_ | refine IntG.wr' rfl ?_ | refine Chk.mk (by omega) ?_ | (refine BrG.id ?_; first | with_reducible refine BrG.t ?_ | with_reducible refine BrG.f ?_ | with_reducible refine BrG.notG ?_ | with_reducible refine BrG.nn ?_ | with_reducible refine BrG.ns ?_ | refine BrG.pos (by omega) ?_ | refine BrG.neg (by omega) ?_ | with_reducible refine BrG.pos rfl ?_ | refine BrG.pos (by assumption) ?_ | refine BrG.neg (by assumption) ?_ | refine BrG.pos (by decide) ?_ | refine BrG.neg (by decide) ?_) | refine Chk.mk (ptr_ok tblOk rfl rfl) ?_ | refine Chk.mk (by decide) ?_)
    have hil := ints_len [row.num, row.cab, row.zone] (by
      intro z hz
      simp only [List.mem_cons, List.mem_nil_iff, or_false] at hz
      rcases hz with rfl | rfl | rfl
      · exact hrok.num
      · exact hrok.cab
      · exact hrok.zone)
    have hml := numB_len10 (marksN [row.exit]) (by have h3' : marksN [row.exit] < 2 := marksN_lt [row.exit]; omega)
    have hsl : sumLen [row.seats] = row.seats.length := by simp [sumLen]
    simp only [List.length_cons, List.length_nil] at hil
    refine hld _ ?_
    unfold rowC
    repeat (first | refine SemW.run tblOk ?_ | refine IntG.nw (by omega) ?_ | refine IntG.nu8 (by omega) ?_ | refine IntG.nu32 (by omega) ?_ | refine IntG.nu64 (by omega) ?_ | refine IntG.wr' rfl ?_ | refine Chk.mk (by omega) ?_ | (refine BrG.id ?_; first | with_reducible refine BrG.t ?_ | with_reducible refine BrG.f ?_ | with_reducible refine BrG.notG ?_ | with_reducible refine BrG.nn ?_ | with_reducible refine BrG.ns ?_ | refine BrG.pos (by omega) ?_ | refine BrG.neg (by omega) ?_ | with_reducible refine BrG.pos rfl ?_ | refine BrG.pos (by assumption) ?_ | refine BrG.neg (by assumption) ?_ | refine BrG.pos (by decide) ?_ | refine BrG.neg (by decide) ?_) | refine Chk.mk (ptr_ok tblOk rfl rfl) ?_ | refine Chk.mk (by decide) ?_)
    refine hS.al ?_
    intro b5 w7 _ hS
    repeat (first | refine SemW.run tblOk ?_ | refine IntG.nw (by omega) ?_ | refine IntG.nu8 (by omega) ?_ | refine IntG.nu32 (by omega) ?_ | refine IntG.nu64 (by omega) ?_ | refine IntG.wr' rfl ?_ | refine Chk.mk (by omega) ?_ | (refine BrG.id ?_; first | with_reducible refine BrG.t ?_ | with_reducible refine BrG.f ?_ | with_reducible refine BrG.notG ?_ | with_reducible refine BrG.nn ?_ | with_reducible refine BrG.ns ?_ | refine BrG.pos (by omega) ?_ | refine BrG.neg (by omega) ?_ | with_reducible refine BrG.pos rfl ?_ | refine BrG.pos (by assumption) ?_ | refine BrG.neg (by assumption) ?_ | refine BrG.pos (by decide) ?_ | refine BrG.neg (by decide) ?_) | refine Chk.mk (ptr_ok tblOk rfl rfl) ?_ | refine Chk.mk (by decide) ?_ | refine hS.ld rfl ?_ | refine hS.ldn rfl ?_ | (refine hS.st rfl rfl ?_; intro _ hS))
    refine hS.al ?_
    intro r2 w8 _ hS
    repeat (first | refine SemW.run tblOk ?_ | refine IntG.nw (by omega) ?_ | refine IntG.nu8 (by omega) ?_ | refine IntG.nu32 (by omega) ?_ | refine IntG.nu64 (by omega) ?_ | refine IntG.wr' rfl ?_ | refine Chk.mk (by omega) ?_ | (refine BrG.id ?_; first | with_reducible refine BrG.t ?_ | with_reducible refine BrG.f ?_ | with_reducible refine BrG.notG ?_ | with_reducible refine BrG.nn ?_ | with_reducible refine BrG.ns ?_ | refine BrG.pos (by omega) ?_ | refine BrG.neg (by omega) ?_ | with_reducible refine BrG.pos rfl ?_ | refine BrG.pos (by assumption) ?_ | refine BrG.neg (by assumption) ?_ | refine BrG.pos (by decide) ?_ | refine BrG.neg (by decide) ?_) | refine Chk.mk (ptr_ok tblOk rfl rfl) ?_ | refine Chk.mk (by decide) ?_ | refine hS.ld rfl ?_ | refine hS.ldn rfl ?_ | (refine hS.st rfl rfl ?_; intro _ hS))
    refine Cl.mono (Int_spec hW (hS.part (L := L2)) (zs := [row.num, row.cab, row.zone]) (hS.arr (b := r2) (nodup_chunk hS)) (by
      intro z hz
      simp only [List.mem_cons, List.mem_nil_iff, or_false] at hz
      rcases hz with rfl | rfl | rfl
      · exact hrok.num
      · exact hrok.cab
      · exact hrok.zone) (by simp) (by simp; omega)) ?_
    rintro _ w9 ⟨L3, hW, hS'⟩
    have hS := hS.call (L := L2) hS'
    repeat (first | refine SemW.run tblOk ?_ | refine IntG.nw (by omega) ?_ | refine IntG.nu8 (by omega) ?_ | refine IntG.nu32 (by omega) ?_ | refine IntG.nu64 (by omega) ?_ | refine IntG.wr' rfl ?_ | refine Chk.mk (by omega) ?_ | (refine BrG.id ?_; first | with_reducible refine BrG.t ?_ | with_reducible refine BrG.f ?_ | with_reducible refine BrG.notG ?_ | with_reducible refine BrG.nn ?_ | with_reducible refine BrG.ns ?_ | refine BrG.pos (by omega) ?_ | refine BrG.neg (by omega) ?_ | with_reducible refine BrG.pos rfl ?_ | refine BrG.pos (by assumption) ?_ | refine BrG.neg (by assumption) ?_ | refine BrG.pos (by decide) ?_ | refine BrG.neg (by decide) ?_) | refine Chk.mk (ptr_ok tblOk rfl rfl) ?_ | refine Chk.mk (by decide) ?_ | refine hS.ld rfl ?_ | refine hS.ldn rfl ?_ | (refine hS.st rfl rfl ?_; intro _ hS))
    refine hS.al ?_
    intro r3 w10 _ hS
    repeat (first | refine SemW.run tblOk ?_ | refine IntG.nw (by omega) ?_ | refine IntG.nu8 (by omega) ?_ | refine IntG.nu32 (by omega) ?_ | refine IntG.nu64 (by omega) ?_ | refine IntG.wr' rfl ?_ | refine Chk.mk (by omega) ?_ | (refine BrG.id ?_; first | with_reducible refine BrG.t ?_ | with_reducible refine BrG.f ?_ | with_reducible refine BrG.notG ?_ | with_reducible refine BrG.nn ?_ | with_reducible refine BrG.ns ?_ | refine BrG.pos (by omega) ?_ | refine BrG.neg (by omega) ?_ | with_reducible refine BrG.pos rfl ?_ | refine BrG.pos (by assumption) ?_ | refine BrG.neg (by assumption) ?_ | refine BrG.pos (by decide) ?_ | refine BrG.neg (by decide) ?_) | refine Chk.mk (ptr_ok tblOk rfl rfl) ?_ | refine Chk.mk (by decide) ?_ | refine hS.ld rfl ?_ | refine hS.ldn rfl ?_ | (refine hS.st rfl rfl ?_; intro _ hS))
    refine Cl.mono (marks_spec hW (hS.part (L := L3)) (l := [row.exit]) (hS.arr (b := r3) (nodup_chunk hS)) (by simp) (by simp only [List.length_append]; omega)) ?_
    rintro _ w11 ⟨L4, hW, hS'⟩
    have hS := hS.call (L := L3) hS'
    repeat (first | refine SemW.run tblOk ?_ | refine IntG.nw (by omega) ?_ | refine IntG.nu8 (by omega) ?_ | refine IntG.nu32 (by omega) ?_ | refine IntG.nu64 (by omega) ?_ | refine IntG.wr' rfl ?_ | refine Chk.mk (by omega) ?_ | (refine BrG.id ?_; first | with_reducible refine BrG.t ?_ | with_reducible refine BrG.f ?_ | with_reducible refine BrG.notG ?_ | with_reducible refine BrG.nn ?_ | with_reducible refine BrG.ns ?_ | refine BrG.pos (by omega) ?_ | refine BrG.neg (by omega) ?_ | with_reducible refine BrG.pos rfl ?_ | refine BrG.pos (by assumption) ?_ | refine BrG.neg (by assumption) ?_ | refine BrG.pos (by decide) ?_ | refine BrG.neg (by decide) ?_) | refine Chk.mk (ptr_ok tblOk rfl rfl) ?_ | refine Chk.mk (by decide) ?_ | refine hS.ld rfl ?_ | refine hS.ldn rfl ?_ | (refine hS.st rfl rfl ?_; intro _ hS))
    refine hS.al ?_
    intro r4 w12 _ hS
    repeat (first | refine SemW.run tblOk ?_ | refine IntG.nw (by omega) ?_ | refine IntG.nu8 (by omega) ?_ | refine IntG.nu32 (by omega) ?_ | refine IntG.nu64 (by omega) ?_ | refine IntG.wr' rfl ?_ | refine Chk.mk (by omega) ?_ | (refine BrG.id ?_; first | with_reducible refine BrG.t ?_ | with_reducible refine BrG.f ?_ | with_reducible refine BrG.notG ?_ | with_reducible refine BrG.nn ?_ | with_reducible refine BrG.ns ?_ | refine BrG.pos (by omega) ?_ | refine BrG.neg (by omega) ?_ | with_reducible refine BrG.pos rfl ?_ | refine BrG.pos (by assumption) ?_ | refine BrG.neg (by assumption) ?_ | refine BrG.pos (by decide) ?_ | refine BrG.neg (by decide) ?_) | refine Chk.mk (ptr_ok tblOk rfl rfl) ?_ | refine Chk.mk (by decide) ?_ | refine hS.ld rfl ?_ | refine hS.ldn rfl ?_ | (refine hS.st rfl rfl ?_; intro _ hS))
    refine Cl.mono (Text_spec hW (hS.part (L := L4)) (ss := [row.seats]) (hS.arr (b := r4) (nodup_chunk hS)) (by rw [hsl]; simp only [List.length_append, List.length_singleton]; omega)) ?_
    rintro _ w13 ⟨L5, hW, hS'⟩
    have hS := hS.call (L := L4) hS'
    repeat (first | refine SemW.run tblOk ?_ | refine IntG.nw (by omega) ?_ | refine IntG.nu8 (by omega) ?_ | refine IntG.nu32 (by omega) ?_ | refine IntG.nu64 (by omega) ?_ | refine IntG.wr' rfl ?_ | refine Chk.mk (by omega) ?_ | (refine BrG.id ?_; first | with_reducible refine BrG.t ?_ | with_reducible refine BrG.f ?_ | with_reducible refine BrG.notG ?_ | with_reducible refine BrG.nn ?_ | with_reducible refine BrG.ns ?_ | refine BrG.pos (by omega) ?_ | refine BrG.neg (by omega) ?_ | with_reducible refine BrG.pos rfl ?_ | refine BrG.pos (by assumption) ?_ | refine BrG.neg (by assumption) ?_ | refine BrG.pos (by decide) ?_ | refine BrG.neg (by decide) ?_) | refine Chk.mk (ptr_ok tblOk rfl rfl) ?_ | refine Chk.mk (by decide) ?_)
    exact ⟨k + 1, ⟨rfl, rfl, rfl, rfl, trivial⟩, ⟨by omega, L5, by rw [hsucc]; simpa [rowB] using hW, hS.sub ((List.sublist_cons_self _ _).trans ((List.sublist_cons_self _ _).trans ((List.sublist_cons_self _ _).trans (List.sublist_cons_self _ _))))⟩, by omega⟩
  · have hke : k = e.rows.length := by omega
    subst hke
    rw [List.take_length] at hW hbl
    repeat (first | refine SemW.run tblOk ?_ | refine IntG.nw (by omega) ?_ | refine IntG.nu8 (by omega) ?_ | refine IntG.nu32 (by omega) ?_ | refine IntG.nu64 (by omega) ?_ | refine IntG.wr' rfl ?_ | refine Chk.mk (by omega) ?_ | (refine BrG.id ?_; first | with_reducible refine BrG.t ?_ | with_reducible refine BrG.f ?_ | with_reducible refine BrG.notG ?_ | with_reducible refine BrG.nn ?_ | with_reducible refine BrG.ns ?_ | refine BrG.pos (by omega) ?_ | refine BrG.neg (by omega) ?_ | with_reducible refine BrG.pos rfl ?_ | refine BrG.pos (by assumption) ?_ | refine BrG.neg (by assumption) ?_ | refine BrG.pos (by decide) ?_ | refine BrG.neg (by decide) ?_) | refine Chk.mk (ptr_ok tblOk rfl rfl) ?_ | refine Chk.mk (by decide) ?_ | refine hS.ld rfl ?_ | refine hS.ldn rfl ?_ | (refine hS.st rfl rfl ?_; intro _ hS))
    refine Cl.mono (Bytes_spec hW (hS.part (L := L2))) ?_
    rintro _ w7 ⟨rfl, hS'⟩
    repeat (first | refine SemW.run tblOk ?_ | refine IntG.nw (by omega) ?_ | refine IntG.nu8 (by omega) ?_ | refine IntG.nu32 (by omega) ?_ | refine IntG.nu64 (by omega) ?_ | refine IntG.wr' rfl ?_ | refine Chk.mk (by omega) ?_ | (refine BrG.id ?_; first | with_reducible refine BrG.t ?_ | with_reducible refine BrG.f ?_ | with_reducible refine BrG.notG ?_ | with_reducible refine BrG.nn ?_ | with_reducible refine BrG.ns ?_ | refine BrG.pos (by omega) ?_ | refine BrG.neg (by omega) ?_ | with_reducible refine BrG.pos rfl ?_ | refine BrG.pos (by assumption) ?_ | refine BrG.neg (by assumption) ?_ | refine BrG.pos (by decide) ?_ | refine BrG.neg (by decide) ?_) | refine Chk.mk (ptr_ok tblOk rfl rfl) ?_ | refine Chk.mk (by decide) ?_)
    exact ⟨rfl, (hS.call (L := L2) hS').nil⟩
end Go.Proofs.YtlghahalejgkfaaDoor
