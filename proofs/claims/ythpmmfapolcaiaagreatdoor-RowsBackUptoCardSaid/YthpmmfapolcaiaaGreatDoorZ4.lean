/- Texts of this claim, one behind the other. -/
import Derived.Test.YthpmmfapolcaiaaGreatDoorZ3
import Derived.Test.YthpmmfapolcaiaaGreatDoorZ2
import Derived.Test.YthpmmfapolcaiaaGreatDoorZ1
import Derived.Test.YthpmmfapolcaiaaGreatDoorZ0
import Derived.ChangeKeysEq
/- Operations: their cells, compared. -/
namespace Go.Proofs.YthpmmfapolcaiaaGreatDoor
open Go Go.Eng Go.Proofs
/-- One operation: key, whether it is taken out, value. -/
abbrev OpM := Bytes × Bool × Bytes
def rop (r : RecM) : OpM := (r.1, false, r.2)
def opDC (o : OpM) : List Value := [Str o.1, .bool o.2.1, Str o.2.2]
theorem opDC_rop (r : RecM) : opDC (rop r) = opC r := rfl
theorem opsC_len (l : List OpM) : (l.flatMap opDC).length = 3 * l.length := by
  induction l with
  | nil => rfl
  | cons p ps ih => rw [List.flatMap_cons, List.length_append, ih, List.length_cons]; show 3 + _ = _; omega
theorem opsC_at (l : List OpM) (k : Nat) (hk : k < l.length) : ((l.flatMap opDC).drop (k * 3)).take 3 = opDC l[k] := by
  induction l generalizing k with
  | nil => simp at hk
  | cons p ps ih =>
    cases k with
    | zero => simp only [Nat.zero_mul, List.drop_zero, List.flatMap_cons, List.getElem_cons_zero]; exact List.take_left' rfl
    | succ k =>
      rw [List.flatMap_cons, show (k + 1) * 3 = (opDC p).length + k * 3 by show _ = 3 + _; omega, List.drop_length_add_append]
      exact ih k (by simpa using hk)
theorem ropsC (l : List RecM) : (l.map rop).flatMap opDC = l.flatMap opC := by
  induction l with
  | nil => rfl
  | cons p ps ih => rw [List.map_cons, List.flatMap_cons, List.flatMap_cons, ih]; rfl
theorem eqOpD (r q : OpM) : EqV 3 Tryz.prog T_api_Op (.agg ⟨opDC r⟩) (.agg ⟨opDC q⟩) (decide (r = q)) := by
  have h : EqV 3 Tryz.prog T_api_Op (.agg ⟨opDC r⟩) (.agg ⟨opDC q⟩) (decide (r.1 = q.1) && (decide (r.2.1 = q.2.1) && (decide (r.2.2 = q.2.2) && true))) := by
    refine EqV.struct (d := [(T_string, 0), (T_bool, 1), (T_string, 2)]) (by kernel_rfl) (by kernel_rfl) (by kernel_rfl) ?_
    refine EqFs.cons (PartIs.one tblOk rfl rfl rfl) (PartIs.one tblOk rfl rfl rfl) (EqV.str tblOk rfl rfl _ _) ?_
    refine EqFs.cons (PartIs.one tblOk rfl rfl rfl) (PartIs.one tblOk rfl rfl rfl) (EqV.bool tblOk rfl rfl _ _) ?_
    exact EqFs.cons (PartIs.one tblOk rfl rfl rfl) (PartIs.one tblOk rfl rfl rfl) (EqV.str tblOk rfl rfl _ _) EqFs.nil
  have e : decide (r = q) = (decide (r.1 = q.1) && (decide (r.2.1 = q.2.1) && (decide (r.2.2 = q.2.2) && true))) := by
    rw [Bool.eq_iff_iff]; simp [Prod.ext_iff]
  rw [e]; exact h
theorem eq_from {α : Type} {l m : List α} (hn : l.length = m.length) (h : ∀ i (h1 : i < l.length) (h2 : i < m.length), l[i] = m[i]) : l = m := List.ext_getElem hn h
end Go.Proofs.YthpmmfapolcaiaaGreatDoor

/- Plain: which operations are a state's records. -/
namespace Go.Proofs.YthpmmfapolcaiaaGreatDoor
open Go Go.Eng Go.Proofs
inductive RecV where
  | eq (e : EquipM)
  | fl (f : FlightM)
  | px (p : PaxM)
def recR : RecV → RecM
  | .eq e => eqRec e
  | .fl f => flRec f
  | .px p => pxRec p
def recOk : RecV → Prop
  | .eq e => i64b e.id ∧ RowsFine e.rows
  | .fl f => f.ok
  | .px p => p.ok ∧ seatGood p.num p.c = true
def addR (s : StateM) : RecV → StateM
  | .eq e => ⟨s.eqs ++ [e], s.fls, s.pxs⟩
  | .fl f => ⟨s.eqs, s.fls ++ [f], s.pxs⟩
  | .px p => ⟨s.eqs, s.fls, s.pxs ++ [p]⟩
def recC : RecV → UInt8
  | .eq _ => 101
  | .fl _ => 102
  | .px _ => 112
def recN : RecV → Int
  | .eq e => e.id
  | .fl f => f.id
  | .px p => p.id
theorem recR_key (R : RecV) : (recR R).1 = keyB (recC R) (recN R) := by cases R <;> rfl
theorem recC_pos : ∀ R : RecV, ¬ recC R = 0
  | .eq _ => (by decide : ¬ (101 : UInt8) = 0)
  | .fl _ => (by decide : ¬ (102 : UInt8) = 0)
  | .px _ => (by decide : ¬ (112 : UInt8) = 0)
theorem recN_ok {R : RecV} (h : recOk R) : i64b (recN R) := by
  cases R with
  | eq e => exact h.1
  | fl f => exact h.id
  | px p => exact h.1.id
theorem keyB_letter {c d : UInt8} {n m : Int} (h : keyB c n = keyB d m) : c = d := by
  unfold keyB at h
  simp only [List.cons_append, List.cons.injEq, List.nil_append] at h
  exact h.2.1
theorem rop_inj {R : RecV} {k v : Bytes} {d : Bool} (h : rop (recR R) = (k, d, v)) : k = keyB (recC R) (recN R) ∧ d = false ∧ v = (recR R).2 := by
  unfold rop at h
  simp only [Prod.mk.injEq] at h
  exact ⟨by rw [← h.1, recR_key], h.2.1.symm, h.2.2.symm⟩
/-- No record: the key is none's. -/
theorem noRec_key {o : OpM} (h : ∀ ps, Spl o.1 ps → ∀ c n, (c = 101 ∨ c = 102 ∨ c = 112) → ps ≠ [.text [c], .num n]) : ∀ R, recOk R → rop (recR R) ≠ o := by
  intro R hR he
  obtain ⟨k, d, v⟩ := o
  obtain ⟨h1, h2, h3⟩ := rop_inj he
  have hs := spl_keyB (recC_pos R) (recN_ok hR)
  rw [← h1] at hs
  exact h _ hs _ _ (by cases R <;> simp [recC]) rfl
theorem noRec_dead {o : OpM} (h : o.2.1 = true) : ∀ R, recOk R → rop (recR R) ≠ o := by
  intro R hR he
  obtain ⟨k, d, v⟩ := o
  obtain ⟨h1, h2, h3⟩ := rop_inj he
  simp only at h
  rw [h] at h2; cases h2
theorem noRec_of {c : UInt8} {n : Int} {k v : Bytes} {d : Bool} (hk : k = keyB c n) (h : ∀ R, recOk R → recC R = c → v ≠ (recR R).2) : ∀ R, recOk R → rop (recR R) ≠ (k, d, v) := by
  intro R hR he
  obtain ⟨h1, h2, h3⟩ := rop_inj he
  exact h R hR (keyB_letter (n := recN R) (m := n) (by rw [← h1, hk])) h3
/-- What is left when a value was read whole. -/
def doneR (s : RB) : Bool := !s.bad && decide (s.t = [])
theorem doneR_iff {s : RB} : doneR s = true ↔ s.bad = false ∧ s.t = [] := by unfold doneR; simp
theorem codec_done {α : Type} {D : RB → α × RB} {E : α → Bytes} {ok : α → Prop} (h : Codec D E ok) {v : Bytes} (hd : doneR (D ⟨v, false⟩).2 = true) : v = E (D ⟨v, false⟩).1 ∧ ok (D ⟨v, false⟩).1 := by
  obtain ⟨h1, h2⟩ := doneR_iff.1 hd
  obtain ⟨-, h3, h4⟩ := h.good _ h1
  rw [h2, List.append_nil] at h3
  exact ⟨h3, h4⟩
theorem codec_not {α : Type} {D : RB → α × RB} {E : α → Bytes} {ok : α → Prop} (h : Codec D E ok) {v : Bytes} (hd : doneR (D ⟨v, false⟩).2 = false) : ∀ a, ok a → v ≠ E a := by
  intro a ha he
  have := h.app a [] ha
  rw [List.append_nil, ← he] at this
  rw [this] at hd
  cases hd
theorem rec_eq {n : Int} (hn : i64b n) {v : Bytes} (hd : doneR (rRowsT ⟨v, false⟩).1 = true) : recOk (.eq ⟨n, (rRowsT ⟨v, false⟩).2⟩) ∧ rop (recR (.eq ⟨n, (rRowsT ⟨v, false⟩).2⟩)) = (keyB 101 n, false, v) := by
  obtain ⟨h1, h2⟩ := codec_done rRowsT_codec (v := v) hd
  simp only at h1 h2
  refine ⟨⟨hn, h2⟩, ?_⟩
  unfold rop recR eqRec equipB
  simp only
  rw [← h1]
theorem noRec_eq {n : Int} {k v : Bytes} (hk : k = keyB 101 n) (hd : doneR (rRowsT ⟨v, false⟩).1 = false) : ∀ R, recOk R → rop (recR R) ≠ (k, false, v) := by
  refine noRec_of hk fun R hR hc => ?_
  cases R with
  | eq e => exact codec_not rRowsT_codec (v := v) hd e.rows hR.2
  | fl f => cases hc
  | px p => cases hc
theorem rec_fl {n : Int} (hn : i64b n) {v : Bytes} (hd : doneR (rFl ⟨v, false⟩ n).2 = true) : recOk (.fl (rFl ⟨v, false⟩ n).1) ∧ rop (recR (.fl (rFl ⟨v, false⟩ n).1)) = (keyB 102 n, false, v) := by
  obtain ⟨h1, h2⟩ := codec_done (rFl_codec n hn) (v := v) hd
  refine ⟨h2.1, ?_⟩
  unfold rop recR flRec
  simp only
  rw [← h1, h2.2]
theorem noRec_fl {n : Int} (hn : i64b n) {k v : Bytes} (hk : k = keyB 102 n) (hd : doneR (rFl ⟨v, false⟩ n).2 = false) : ∀ R, recOk R → rop (recR R) ≠ (k, false, v) := by
  intro R hR he
  obtain ⟨h1, h2, h3⟩ := rop_inj he
  have hc := keyB_letter (c := recC R) (d := 102) (n := recN R) (m := n) (by rw [← h1, hk])
  cases R with
  | eq e => cases hc
  | px p => cases hc
  | fl f =>
    have hid : f.id = n := keyB_inj (c := 102) hR.id hn (show keyB 102 f.id = keyB 102 n by rw [← hk]; exact h1.symm)
    exact codec_not (rFl_codec n hn) (v := v) hd f ⟨hR, hid⟩ h3
theorem rec_px {n : Int} (hn : i64b n) {v : Bytes} (hd : doneR (rPax ⟨v, false⟩ n).2 = true) : recOk (.px (rPax ⟨v, false⟩ n).1) ∧ rop (recR (.px (rPax ⟨v, false⟩ n).1)) = (keyB 112 n, false, v) := by
  obtain ⟨h1, h2⟩ := codec_done (rPax_codec n hn) (v := v) hd
  refine ⟨h2.1, ?_⟩
  unfold rop recR pxRec
  simp only
  rw [← h1, h2.2]
theorem noRec_px {n : Int} (hn : i64b n) {k v : Bytes} (hk : k = keyB 112 n) (hd : doneR (rPax ⟨v, false⟩ n).2 = false) : ∀ R, recOk R → rop (recR R) ≠ (k, false, v) := by
  intro R hR he
  obtain ⟨h1, h2, h3⟩ := rop_inj he
  have hc := keyB_letter (c := recC R) (d := 112) (n := recN R) (m := n) (by rw [← h1, hk])
  cases R with
  | eq e => cases hc
  | fl f => cases hc
  | px p =>
    have hid : p.id = n := keyB_inj (c := 112) hR.1.id hn (show keyB 112 p.id = keyB 112 n by rw [← hk]; exact h1.symm)
    exact codec_not (rPax_codec n hn) (v := v) hd p ⟨hR, hid⟩ h3
end Go.Proofs.YthpmmfapolcaiaaGreatDoor

/- A string's bytes appended to an own slice anywhere in its block; []byte(s). -/
namespace Go.Eng
open Go
section
variable {P : Program} {T0 : Tbl}
/-- append(v, s...) of a string's bytes, to a slice anywhere in its block. -/
theorem St.appOStr (hT : TOk P T0) {t u e ty : TypeId} {i iu ie : TI} (hi : tf T0 t = some i) (hk : i.k = .slice e 1) (hiu : tf T0 u = some iu) (hku : iu.k = .str) (hie : tf T0 e = some ie)
    (hz : ie.zero.cells.size = 1) {w0 w : World} {T : List Nat} {H L : Heap} {F : Heap → Heap} (hS : St w0 T H w) {a : Option Addr} {n cap : Nat} {xs : List Value} (hv : VecO e a n cap xs L) [hc : Chunk H L F]
    {s : List UInt8}
    (hlen : (n + s.length) * ie.bytes ≤ 140737488355328) (hlen' : n + s.length ≤ 9223372036854775807) {K : Value → World → Prop}
    (h : ∀ a' cap' L' w', VecO e a' (n + s.length) cap' (xs ++ s.map byteV) L' → St w0 T (F L') w' → K (.slice a' (n + s.length) cap') w') :
    RunG P (Builtin.append_ ⟨[t, u]⟩ ty ⟨[.slice a n cap, Str s]⟩) w K := by
  have hu := und_of hT hiu
  rw [hku] at hu
  obtain ⟨m, hmd⟩ : ∃ m, m = s.length := ⟨_, rfl⟩
  obtain ⟨news, hnews⟩ : ∃ l, l = s.map byteV := ⟨_, rfl⟩
  have hm : news.length = m := by rw [hnews, hmd]; simp
  have h1 : news.all Value.oneCell' = true := by rw [hnews]; simp [byteV, Value.oneCell']
  rw [← hmd] at hlen hlen'
  have h : ∀ a' cap' L' w', VecO e a' (n + m) cap' (xs ++ news) L' → St w0 T (F L') w' → K (.slice a' (n + m) cap') w' := by rw [hmd, hnews]; exact h
  have hlo : (Builtin.lenOf (Str s)).run P w = .ok m w := by rw [hmd]; rfl
  obtain ⟨x, hx0⟩ : ∃ x, x = Str s := ⟨_, rfl⟩
  have ht := und_of hT hi
  rw [hk] at ht
  obtain ⟨ht, hes⟩ := ht
  obtain ⟨inf, hinf, hzz, hs1, hby⟩ := info_of hT hie
  have hsz : inf.size = 1 := by rw [hinf] at hes; simpa using hes
  have hpart : Holds L w := hS.part (L := L)
  have hin := St.enter hpart
  have hsrc : ∀ w', w'.heap = w.heap → (Builtin.firstCells 1 m (Str s)).run P w' = .ok ⟨news⟩ w' := fun w' _ => by
    subst hmd hnews
    show Result.ok _ _ = _
    congr 1
    apply Array.ext'
    simp [ByteArray.data_extract]
    intro a _; rfl
  rw [← hx0] at hsrc hlo ⊢
  have step : ∀ o, St w0 T (F [(w.heap.size, o)]) (w.drew.alloc o) := fun o =>
    hS.call (L := L) (((hin.drew).alloc o).sub (List.Sublist.cons_cons _ (List.nil_sublist _)))
  cases hv with
  | nil =>
    subst hx0 hmd hnews
    exact St.appStr hT hi hk hiu hku hie hz hS Vec.nil hlen hlen' fun a' cap' L' w' h2 h3 => h a' cap' L' w' (VecO.of h2) h3
  | row g pre xs l post n cap fz hf hx hl =>
    have hg : w.heap[g]? = some (.cells ⟨pre ++ (xs ++ (l ++ post))⟩ e fz) := hpart.own _ (List.mem_singleton.2 rfl)
    by_cases hroom : n + m ≤ cap
    · have hst := run_storeCells_fz P g (pre.length + n * 1) e fz news 0 ⟨pre ++ (xs ++ (l ++ post))⟩ w hg (by simp only [List.length_append] at hf; omega) (by simp; omega) (fun v hv => List.all_eq_true.1 h1 v hv)
      simp only [Nat.add_zero] at hst
      have e1 : (pre ++ (xs ++ (l ++ post))).take (pre.length + n * 1) = pre ++ xs := by
        rw [← List.append_assoc, show pre.length + n * 1 = (pre ++ xs).length by simp; omega, List.take_left]
      have e2 : (pre ++ (xs ++ (l ++ post))).drop (pre.length + n * 1 + news.length) = l.drop m ++ post := by
        rw [← List.append_assoc, show pre.length + n * 1 + news.length = (pre ++ xs).length + m by simp; omega, List.drop_append, List.drop_eq_nil_of_le (by omega), List.nil_append,
          show (pre ++ xs).length + m - (pre ++ xs).length = m by omega, List.drop_append_of_le_length (by omega)]
      have e3 : pre ++ xs ++ news ++ (l.drop m ++ post) = pre ++ ((xs ++ news) ++ (l.drop m ++ post)) := by simp
      have hv2 := VecO.row (e := e) g pre (xs ++ news) (l.drop m) post (n + m) cap fz (by simp only [List.length_append, List.length_drop] at hf ⊢; omega) (by simp; omega) (by simp; omega)
      refine RunG.of ?_ (h (some ⟨g, pre.length, none⟩) cap _ (w.setRow g ⟨pre ++ ((xs ++ news) ++ (l.drop m ++ post))⟩) hv2 ?_)
      · simp only [e1, e2] at hst
        rw [← e3]
        simp [Builtin.append_, run_underlying ht, run_underlying hu, sizeOf, typeInfo, hinf, hsz, hlo, hroom, hsrc w rfl, Addr.add_eq]
        rw [show pre.length + n = pre.length + n * 1 by omega, hst]
        simp
      · exact hS.call (L := [(g, .cells ⟨pre ++ (xs ++ (l ++ post))⟩ e fz)]) (hin.setRow (b := g) (l := pre ++ (xs ++ (l ++ post))) (l' := pre ++ ((xs ++ news) ++ (l.drop m ++ post))))
    · have hge := grownCap_ge w (n + m) cap e
      have h3 : ¬ (9223372036854775807 < ((n : Int) + (m : Int))) := by omega
      have h4 : ¬ (281474976710656 < Builtin.nextslicecap (n + m) cap * inf.bytes) := by
        have := growslice_fits (need := n + m) (old := cap) (bytes := inf.bytes) (by omega) (by rw [hby]; exact hlen)
        omega
      have h5 := hsrc w.drew rfl
      have hfo := run_firstCells_some (P := P) w.drew 1 n ⟨g, pre.length, none⟩ n cap xs (by omega) (fun j v hj => by
        rw [Addr.add_eq]
        have hlt : j < xs.length := (List.getElem?_eq_some_iff.1 hj).1
        have hg' : w.drew.heap[g]? = some (.cells ⟨pre ++ (xs ++ (l ++ post))⟩ e fz) := hg
        simp only [World.cell?, hg', Option.isSome_none, Bool.false_eq_true, if_false]
        rw [show (Array.mk (pre ++ (xs ++ (l ++ post))))[pre.length + j]? = (pre ++ (xs ++ (l ++ post)))[pre.length + j]? by simp, List.getElem?_append_right (by omega), show pre.length + j - pre.length = j by omega, List.getElem?_append_left hlt]
        exact hj)
      have hV := VecO.row (e := e) w.heap.size [] (xs ++ news) (Builtin.zeroCells ie.zero.cells (grownCap w (n + m) cap e - (n + m))).toList [] (n + m) (grownCap w (n + m) cap e) (0, 0) (.inl (Nat.zero_le _)) (by simp; omega) (by rw [zeroCells_len, hz]; simp; omega)
      refine RunG.of ?_ (h _ _ _ _ hV (step _))
      simp [Builtin.append_, run_underlying ht, run_underlying hu, sizeOf, typeInfo, zeroValue, hinf, hzz, hsz, hlo, hroom, h3, h4, Question.forced, hfo, h5, newRow, grownCap]
      congr 2
      apply Array.ext'
      simp
end
/-- []byte(s): a slice of the call's own. -/
theorem St.toBytesV {P : Program} {T0 : Tbl} (hT : TOk P T0) {t u e : TypeId} {i iu ie : TI} (hi : tf T0 t = some i) (hk : i.k = .slice e 1) (hiu : tf T0 u = some iu) (hku : iu.k = .str) (hie : tf T0 e = some ie) (hke : ie.k = .int .u8)
    {w0 w : World} {T : List Nat} {H : Heap} (hS : St w0 T H w) {s : List UInt8} {K : Value → World → Prop}
    (h : ∀ a c L w', VecO e a s.length c (s.map byteV) L → St w0 T (L ++ H) w' → K (.slice a s.length c) w') : RunG P (convert u t (Str s)) w K := by
  have h1 := und_of hT hiu; rw [hku] at h1
  have h2 := und_of hT hi; rw [hk] at h2
  have h3 := und_of hT hie; rw [hke] at h3
  have hge := grownCap_ge w s.length 0 e
  have e1 : bytesRow ⟨⟨s⟩⟩ (grownCap w s.length 0 e) = ⟨[] ++ (s.map byteV ++ (List.replicate (grownCap w s.length 0 e - s.length) (.int .u8 0) ++ []))⟩ := by
    apply Array.ext'
    simp [bytesRow]; rfl
  have hrun : (convert u t (Str s)).run P w = .ok (.slice (some ⟨w.heap.size, 0, none⟩) s.length (grownCap w s.length 0 e))
      (w.drew.alloc (.cells (bytesRow ⟨⟨s⟩⟩ (grownCap w s.length 0 e)) e ((bytesRow ⟨⟨s⟩⟩ (grownCap w s.length 0 e)).size, (bytesRow ⟨⟨s⟩⟩ (grownCap w s.length 0 e)).size + 1))) := run_bytes_of_string w u t e ⟨⟨s⟩⟩ h1 h2.1 h3
  have hv := VecO.row (e := e) w.drew.heap.size [] (s.map byteV) (List.replicate (grownCap w s.length 0 e - s.length) (.int .u8 0)) [] s.length (grownCap w s.length 0 e) ((bytesRow ⟨⟨s⟩⟩ (grownCap w s.length 0 e)).size, (bytesRow ⟨⟨s⟩⟩ (grownCap w s.length 0 e)).size + 1)
    (.inr (by rw [e1]; simp)) (by simp) (by simp; omega)
  refine RunG.of hrun (h _ _ _ _ hv ?_)
  have := hS.drew.alloc (.cells (bytesRow ⟨⟨s⟩⟩ (grownCap w s.length 0 e)) e ((bytesRow ⟨⟨s⟩⟩ (grownCap w s.length 0 e)).size, (bytesRow ⟨⟨s⟩⟩ (grownCap w s.length 0 e)).size + 1))
  rw [← e1]
  exact this
end Go.Eng
namespace Go.Proofs.YthpmmfapolcaiaaGreatDoor
open Go Go.Eng Go.Proofs
def be8to (n k : Nat) : Bytes := List.replicate (8 - k) 0 ++ (be8 n).drop (8 - k)
theorem be8to_set (n k : Nat) (hk : k < 8) : ((be8to n k).map byteV).set (7 - k) (byteV (UInt8.ofNat (n / 256 ^ k))) = (be8to n (k + 1)).map byteV := by
  match k, hk with
  | 0, _ => simp [be8to, be8]
  | 1, _ => simp [be8to, be8]
  | 2, _ => simp [be8to, be8]
  | 3, _ => simp [be8to, be8]
  | 4, _ => simp [be8to, be8]
  | 5, _ => simp [be8to, be8]
  | 6, _ => simp [be8to, be8]
  | 7, _ => simp [be8to, be8]
theorem be8to_len (n k : Nat) (hk : k ≤ 8) : (be8to n k).length = 8 := by
  unfold be8to be8
  rw [List.length_append, List.length_replicate, List.length_drop]
  show 8 - k + (8 - (8 - k)) = 8
  omega
end Go.Proofs.YthpmmfapolcaiaaGreatDoor

/- Regions that draw their order, with several effects that only make new memory. -/
namespace Go.Eng
open Go

section
variable {P : Program} {ops : Array Oper} {Q : Exit → Act → World → Prop} {md : Region.Mode} {S : Nat → World → World → Prop}
/-- Whatever order is picked from here on; operation number i leads from w to w' only as S i says. -/
def wpAnyR (P : Program) (md : Region.Mode) (ops : Array Oper) (Q : Exit → Act → World → Prop) (S : Nat → World → World → Prop) : Nat → Array Bool → Act → World → Prop
  | 0, listed, a, w => Region.ready md ops listed = [] ∧ Q .normal a w
  | fuel + 1, listed, a, w =>
    (Region.ready md ops listed = [] → Q .normal a w) ∧
    ∀ i ∈ Region.ready md ops listed, wpOp P ops Q i (fun a' w' => S i w w' ∧ wpAnyR P md ops Q S fuel (listed.setIfInBounds i true) a' w') a w
theorem wpAny_of_R : ∀ (fuel : Nat) (listed : Array Bool) (a : Act) (w : World), wpAnyR P md ops Q S fuel listed a w → wpAny P md ops Q fuel listed a w
  | 0, _, _, _, h => h
  | fuel + 1, _, _, _, h => ⟨h.1, fun i hi => wpOp_mono (fun a' w' h' => wpAny_of_R fuel _ a' w' h'.2) (h.2 i hi)⟩
theorem wpAnyR_first {C : World → Prop} {n i : Nat} {oi : Oper} {v : Value} (hi : ops[i]? = some oi) (hsel : ∀ (j : Nat) (o : Oper) cs b, ops[j]? = some o → o.op ≠ .select cs b)
    (hQ : ∀ c a w, Q (.panic c) (a.put oi.dst v) w → Q (.panic c) a w) (hSi : ∀ w, S i w w) :
    ∀ (fuel : Nat) (listed : Array Bool) (a : Act) (w : World), Closed ops listed →
      (∀ j oj, ops[j]? = some oj → j ≠ i → listed.getD j true = false → dep ops n j i = false → oi.apart ops oj = true ∧ ∀ w1 w2, C w1 → S j w1 w2 → C w2) →
      i ∈ Region.ready .any ops listed → YieldsIf P ops C oi v a → C w →
      wpAnyR P .any ops Q S fuel (listed.setIfInBounds i true) (a.put oi.dst v) w → wpAnyR P .any ops Q S (fuel + 1) listed a w := by
  intro fuel
  induction fuel with
  | zero =>
    intro listed a w _ _ hr hy hS H
    refine ⟨fun h => (by rw [h] at hr; cases hr), fun j hj => ?_⟩
    by_cases hji : j = i
    · subst hji; exact hy.wpOp hi hS ⟨hSi _, H⟩
    · have := ready_mono hj hji
      rw [H.1] at this
      cases this
  | succ fuel ih =>
    intro listed a w hcl hfree hr hy hS H
    refine ⟨fun h => (by rw [h] at hr; cases hr), fun j hj => ?_⟩
    by_cases hji : j = i
    · subst hji; exact hy.wpOp hi hS ⟨hSi _, H⟩
    · have h1 := H.2 j (ready_mono hj hji)
      obtain ⟨hjun, oj, hoj, hall⟩ := mem_ready.1 hj
      have hnot := ready_not_dep (n := n) hcl (mem_ready.1 hr).1 hj
      obtain ⟨hap, hkeep⟩ := hfree j oj hoj hji hjun hnot
      have h2 := wpOp_putIf hoj hap (fun cs b => hsel i oi cs b hi) (fun cs b => hsel j oj cs b hoj) hQ hy h1
      have hfree' : ∀ k ok, ops[k]? = some ok → k ≠ i → (listed.setIfInBounds j true).getD k true = false →
          dep ops n k i = false → oi.apart ops ok = true ∧ ∀ w1 w2, C w1 → S k w1 w2 → C w2 := fun k ok hk hki hun hno => by
        refine hfree k ok hk hki ?_ hno
        by_cases hjk : j = k
        · subst hjk; exact hjun
        · rw [getD_set_ne true hjk] at hun; exact hun
      refine wpOp_mono (fun a' w' h3 => ⟨h3.2.1, ih (listed.setIfInBounds j true) a' w' (hcl.set hj) hfree' (ready_mono hr (Ne.symm hji)) h3.1 (hkeep _ _ hS h3.2.1) ?_⟩) h2
      rw [Array.setIfInBounds_comm _ _ hji]
      exact h3.2.2
end
/-- Nothing but new memory has been made. -/
abbrev Grew (w w' : World) : Prop := St w [] [] w'
theorem Grew.refl (w : World) : Grew w w := St.start w
theorem Grew.trans {w w1 w2 : World} (h : Grew w w1) (h' : Grew w1 w2) : Grew w w2 := St.call0 h h'

def grewS (fin : List Nat) (i : Nat) (w w' : World) : Prop := i ∈ fin ∨ Grew w w'
theorem St.alG {w0 w : World} {T : List Nat} {H : Heap} (hS : St w0 T H w) {o : Obj} {K : Nat → World → Prop} (h : ∀ b w', Grew w w' → St w0 T ((b, o) :: H) w' → K b w') : AllG w o K :=
  ⟨h _ _ ((St.start w).alloc o).nil (hS.alloc o)⟩
theorem St.ldG {w0 w : World} {T : List Nat} {H : Heap} {b off : Nat} {l : List Value} {t : TypeId} {fz : Nat × Nat} {F : Obj → Heap} (hS : St w0 T H w) [Slot H b (.cells ⟨l⟩ t fz) F] {v : Value} (hv : l[off]? = some v)
    {K : Value → Prop} (hk : K v) : LdC (Grew w) ⟨b, off, none⟩ K :=
  ⟨⟨v, fun _ h => h.oldCell (by simp) (hS.cell hv), hk⟩⟩
theorem St.ldnG {w0 w : World} {T : List Nat} {H : Heap} {n b off : Nat} {l : List Value} {t : TypeId} {fz : Nat × Nat} {F : Obj → Heap} (hS : St w0 T H w) [Slot H b (.cells ⟨l⟩ t fz) F] (hn : Nat.ble (off + n) l.length = true)
    {K : List Value → Prop} (hk : forceL ((l.drop off).take n) K) : LdN (Grew w) n b off K := by
  have hle := Nat.le_of_ble_eq_true hn
  refine ⟨⟨_, by simp; omega, fun _ h j v hv => ?_, (forceL_iff _ _).1 hk⟩⟩
  refine h.oldCell (by simp) (hS.cell ?_)
  rw [List.getElem?_take] at hv
  split at hv
  · rw [List.getElem?_drop] at hv; exact hv
  · cases hv
theorem St.ldOldG {w0 w : World} {T : List Nat} {H : Heap} (hS : St w0 T H w) {a : Addr} (hb : a.block ∉ T) {v : Value} (h : w0.cell? a = some v) {K : Value → Prop} (hk : K v) : LdC (Grew w) a K :=
  ⟨⟨v, fun _ h' => h'.oldCell (by simp) (hS.oldCell hb h), hk⟩⟩
/-- i may be taken first: it is pure or reads, and nothing else that could come up now is in its way. -/
def takeOK (ops : Array Oper) (kd : Op → OpKind) (fin : List Nat) (listed : Array Bool) (i : Nat) : Bool := match ops[i]? with
  | none => false
  | some o => (match kd o.op with | .eff => false | _ => true) && (Region.ready .any ops listed).contains i && free' ops listed i && !fin.elem i && finWait ops listed fin i
/-- What is left of a region that draws its order. -/
structure DrawG (P : Program) (T : Tbl) (N : Nat) (all : List Oper) (fin : List Nat) (Q : Exit → Env → World → Prop) (n : Nat) (listed : Array Bool) (e : Env) (w : World) : Prop where
  out : ∀ a, Closed ⟨all⟩ listed → Rel N e a → wpAnyR P .any ⟨all⟩ (lift N Q) (grewS fin) n listed a w
def vcT (P : Program) (T : Tbl) (N : Nat) (all : List Oper) (fin : List Nat) (Q : Exit → Env → World → Prop) (n : Nat) : List Nat → Array Bool → Env → World → Prop
  | [], listed, e, w => DrawG P T N all fin Q n listed e w
  | i :: r, listed, e, w => atK all i fun o => grdG all o.guard e
    (fun e => match kind T o.op with
      | .pure => pureG P T e o.op fun v => putE N o.dst v e fun e' => vcT P T N all fin Q n r (listed.setIfInBounds i true) e' w
      | .read => readG P T e (Grew w) o fun v => putE N o.dst v e fun e' => vcT P T N all fin Q n r (listed.setIfInBounds i true) e' w
      | .eff => False)
    (fun e => putE N o.dst undef e fun e' => vcT P T N all fin Q n r (listed.setIfInBounds i true) e' w)
def takesOK (ops : Array Oper) (kd : Op → OpKind) (fin : List Nat) : List Nat → Array Bool → Bool
  | [], _ => true
  | i :: r, listed => takeOK ops kd fin listed i && takesOK ops kd fin r (listed.setIfInBounds i true)
section
variable {P : Program} {T : Tbl} (hT : TOk P T) {N : Nat} {all : List Oper} {fin : List Nat} {Q : Exit → Env → World → Prop}
include hT
theorem DrawG.takes (hsel : Region.noSelect ⟨all⟩ = true) (n : Nat) : ∀ (is : List Nat) {listed : Array Bool} {e : Env} {w : World} (_h : takesOK ⟨all⟩ (kind T) fin is listed = true) (_g : vcT P T N all fin Q n is listed e w), DrawG P T N all fin Q (n + is.length) listed e w
  | [], _, _, _, _, g => g
  | i :: r, listed, e, w, h, g => by
    refine ⟨fun a hcl hr => ?_⟩
    simp only [takesOK, Bool.and_eq_true] at h
    obtain ⟨h1, h2⟩ := h
    obtain ⟨o, ho, g⟩ := atK_iff g
    have ho' : (Array.mk all)[i]? = some o := by simpa using ho
    unfold takeOK at h1
    simp only [ho', Bool.and_eq_true] at h1
    obtain ⟨⟨⟨⟨hk, hrd⟩, hf⟩, hnf⟩, hw⟩ := h1
    have hready : i ∈ Region.ready .any ⟨all⟩ listed := by simpa using hrd
    have key : ∀ (v : Value) (e' : Env), YieldsIf P ⟨all⟩ (Grew w) o v a → Rel N e' (a.put o.dst v) → vcT P T N all fin Q n r (listed.setIfInBounds i true) e' w →
        wpAnyR P .any ⟨all⟩ (lift N Q) (grewS fin) (n + (i :: r).length) listed a w := by
      intro v e' hy hr' hv
      rw [List.length_cons, ← Nat.add_assoc]
      refine wpAnyR_first (C := Grew w) (n := all.length) ho' (Region.noSelect_spec hsel) (fun c a w h => h.elim) (fun w => .inr (Grew.refl w)) (n + r.length) listed a w hcl ?_ hready hy (Grew.refl w) ?_
      · intro j oj hj hne hun hd
        have hjlt : j < all.length := by have := (Array.getElem?_eq_some_iff.1 hj).1; simpa using this
        simp only [free', ho', List.all_eq_true, List.mem_range] at hf
        have h1 := hf j (by simpa using hjlt)
        have hd' : dep ⟨all⟩ (Array.mk all).size j i = false := hd
        simp only [hj, Bool.or_eq_true, beq_iff_eq, hne, false_or, hun, hd', Bool.false_eq_true] at h1
        refine ⟨h1, fun w1 w2 hw1 hw2 => ?_⟩
        rcases hw2 with hw2 | hw2
        · simp only [finWait, List.all_eq_true] at hw
          have h3 := hw j hw2
          simp only [Bool.or_eq_true, beq_iff_eq, hne, false_or, hun, hd', Bool.false_eq_true] at h3
        · exact hw1.trans hw2
      · exact (DrawG.takes hsel n r h2 hv).out _ (hcl.set hready) hr'
    rcases grdG_iff hr g with ⟨e1, h1, h2, h3⟩ | ⟨e1, h1, h2, h3⟩
    · cases hk' : kind T o.op <;> simp only [hk'] at h3 hk
      case pure =>
        obtain ⟨v, h4, h5⟩ := pureG_sound hT h1 h3
        obtain ⟨e', h6, h7⟩ := putE_iff h4 h1
        exact key v e' (.inl ⟨h2, fun w _ => h5 w⟩) h6 h7
      case read =>
        obtain ⟨v, h4, h5⟩ := readG_sound hT h1 h3
        obtain ⟨e', h6, h7⟩ := putE_iff h4 h1
        exact key v e' (.inl ⟨h2, fun w hw => h5 w hw⟩) h6 h7
    · obtain ⟨e', h6, h7⟩ := putE_iff h3 h1
      exact key undef e' (.inr ⟨h2, rfl⟩) h6 h7
/-- Whatever may come up now. -/
theorem DrawG.alt {n : Nat} {listed : Array Bool} {e : Env} {w : World} (j : Nat) (js : List Nat) (h : Region.ready .any ⟨all⟩ listed = j :: js)
    (g : allP (j :: js) fun i => atK all i fun o => grdG all o.guard e
      (fun e => match kind T o.op with
        | .pure => pureG P T e o.op fun v => putE N o.dst v e fun e' => DrawG P T N all fin Q n (listed.setIfInBounds i true) e' w
        | .read => readG P T e (fun w' => w = w') o fun v => putE N o.dst v e fun e' => DrawG P T N all fin Q n (listed.setIfInBounds i true) e' w
        | .eff => effG P T e o w fun v w' => (match fin.elem i with
          | true => putE N o.dst v e fun e' => DrawG P T N all fin Q n (listed.setIfInBounds i true) e' w'
          | false => Chk (Grew w w') (putE N o.dst v e fun e' => DrawG P T N all fin Q n (listed.setIfInBounds i true) e' w')))
      (fun e => putE N o.dst undef e fun e' => DrawG P T N all fin Q n (listed.setIfInBounds i true) e' w)) : DrawG P T N all fin Q (n + 1) listed e w := by
  refine ⟨fun a hcl hr => ⟨fun h0 => (by rw [h] at h0; cases h0), fun i hi => ?_⟩⟩
  have hcl' := hcl.set hi
  rw [h] at hi
  obtain ⟨o, ho, g⟩ := atK_iff (allP_mem g i hi)
  have ho' : (Array.mk all)[i]? = some o := by simpa using ho
  rcases grdG_iff hr g with ⟨e1, h1, h2, h3⟩ | ⟨e1, h1, h2, h3⟩
  · unfold wpOp
    simp only [ho', h2, if_true]
    refine .inl ?_
    cases hk : kind T o.op <;> simp only [hk] at h3
    case pure =>
      obtain ⟨v, h4, h5⟩ := pureG_sound hT h1 h3
      obtain ⟨e', h6, h7⟩ := putE_iff h4 h1
      exact Oper.wp_value (h5 w) ⟨.inr (Grew.refl w), h7.out _ hcl' h6⟩
    case read =>
      obtain ⟨v, h4, h5⟩ := readG_sound hT h1 h3
      obtain ⟨e', h6, h7⟩ := putE_iff h4 h1
      exact Oper.wp_value (h5 w rfl) ⟨.inr (Grew.refl w), h7.out _ hcl' h6⟩
    case eff =>
      refine effG_sound hT h1 h3 fun v w' hk' => ?_
      cases hf : fin.elem i <;> rw [hf] at hk'
      · obtain ⟨e', h6, h7⟩ := putE_iff hk'.q h1
        exact ⟨.inr hk'.p, h7.out _ hcl' h6⟩
      · obtain ⟨e', h6, h7⟩ := putE_iff hk' h1
        exact ⟨.inl (by simpa using hf), h7.out _ hcl' h6⟩
  · obtain ⟨e', h6, h7⟩ := putE_iff h3 h1
    unfold wpOp
    simp only [ho', h2, Bool.false_eq_true, if_false]
    exact ⟨.inr (Grew.refl w), h7.out _ hcl' h6⟩
omit hT in
theorem DrawG.done {n : Nat} {listed : Array Bool} {e : Env} {w : World} (h : Region.ready .any ⟨all⟩ listed = []) (hk : Q .normal e w) : DrawG P T N all fin Q n listed e w := by
  refine ⟨fun a _ hr => ?_⟩
  cases n with
  | zero => exact ⟨h, e, hr, hk⟩
  | succ n => exact ⟨fun _ => ⟨e, hr, hk⟩, fun i hi => by rw [h] at hi; cases hi⟩
end
theorem SemW.drawR {P : Program} {T : Tbl} (_hT : TOk P T) {N : Nat} {all : List Oper} {Q : Exit → Env → World → Prop} {id : Nat} {e : Env} {w : World} (hm : P.follows .mixedOrders = true) (fin : List Nat) (h : DrawG P T N all fin Q all.length (Array.replicate (Array.mk all).size false) e w.drew) : StopW P N (.region id ⟨all⟩ true) Q e w :=
  ⟨fun a hr => wp_region_any hm (wpAny_of_R _ _ _ _ (h.out a (by
    intro j oj _ hl
    simp only [Array.getD_eq_getD_getElem?, Array.getElem?_replicate] at hl
    split at hl <;> simp at hl) hr))⟩
end Go.Eng

/- Package order: Split. -/
namespace Go.Proofs.YthpmmfapolcaiaaGreatDoor
open Go Go.Eng Go.Proofs
def partZ : List Value := [.int .i64 0, .int .i64 0, Str []]
theorem be_step (u : Nat) (x : UInt8) (hu : u < 72057594037927936) : orI .u64 (IntKind.u64.wrap ((u : Int) * 2 ^ min (Int.toNat 8) IntKind.u64.bits)) (IntKind.u64.wrap ((x.toNat : Nat) : Int)) = ((256 * u + x.toNat : Nat) : Int) := by
  have hx := x.toNat_lt
  have e1 : (u : Int) * 2 ^ min (Int.toNat 8) IntKind.u64.bits = ((u * 2 ^ 8 : Nat) : Int) := by
    show (u : Int) * 2 ^ 8 = _
    simp
  rw [e1, wrapU .u64 rfl, wrapU .u64 rfl, show u * 2 ^ 8 % 2 ^ IntKind.u64.bits = u * 2 ^ 8 from Nat.mod_eq_of_lt (show u * 2 ^ 8 < 18446744073709551616 by omega), show x.toNat % 2 ^ IntKind.u64.bits = x.toNat from Nat.mod_eq_of_lt (show x.toNat < 18446744073709551616 by omega), orU .u64 rfl _ _ (show u * 2 ^ 8 < 18446744073709551616 by omega) (show x.toNat < 18446744073709551616 by omega), or_add _ _ _ (by omega)]
  congr 1
  omega
theorem top_int (u : Nat) (hu : u < 18446744073709551616) : IntKind.i64.wrap (xorI .u64 (u : Int) 9223372036854775808) = (u : Int) - 9223372036854775808 := by
  have hx := xorU .u64 rfl u 9223372036854775808 hu (by decide)
  rw [show ((9223372036854775808 : Nat) : Int) = 9223372036854775808 from rfl] at hx
  rw [hx, xor_top u hu]
  unfold IntKind.wrap
  simp only [IntKind.signed, IntKind.bits]
  split <;> simp <;> omega
set_option maxHeartbeats 2000000 in
theorem onumber_spec {w : World} {r : Bytes} (hr : r.length ≤ 70368744177664) :
    Cl Tryz.prog f_order_number [Str r] w fun v w' => (v = if 8 ≤ r.length then .tuple ⟨[.agg ⟨partC (.num (unb (r.take 8)))⟩, Str (r.drop 8), .bool true]⟩ else .tuple ⟨[.agg ⟨partZ⟩, Str [], .bool false]⟩) ∧ St w [] [] w' := by
  have hS := St.start w
  refine en_order_number rfl ?_
  repeat (first | refine SemW.run tblOk ?_ | refine jA (by omega) ?_ | refine jB (by omega) ?_ | refine jC (by omega) ?_ | refine jD (by omega) ?_ | refine jE rfl ?_ | refine jF (by omega) ?_ | (refine jG ?_; first | with_reducible (first | refine jH ?_ | refine jI ?_ | refine jJ ?_ | refine jK ?_ | refine jL ?_) | refine jM (by omega) ?_ | refine jN (by omega) ?_ | with_reducible refine jM rfl ?_ | refine jM (by assumption) ?_ | refine jN (by assumption) ?_ | refine jM (by decide) ?_ | refine jN (by decide) ?_) | refine jF (ptr_ok tblOk rfl rfl) ?_ | refine jO (fun _ => by kernel_rfl) ?_ | refine jF (by decide) ?_)
  refine hS.al ?_
  intro b2 w1 _ hS
  by_cases h8 : 8 ≤ r.length
  rotate_left
  · rw [if_neg h8]
    repeat (first | refine SemW.run tblOk ?_ | refine jA (by omega) ?_ | refine jB (by omega) ?_ | refine jC (by omega) ?_ | refine jD (by omega) ?_ | refine jE rfl ?_ | refine jF (by omega) ?_ | (refine jG ?_; first | with_reducible (first | refine jH ?_ | refine jI ?_ | refine jJ ?_ | refine jK ?_ | refine jL ?_) | refine jM (by omega) ?_ | refine jN (by omega) ?_ | with_reducible refine jM rfl ?_ | refine jM (by assumption) ?_ | refine jN (by assumption) ?_ | refine jM (by decide) ?_ | refine jN (by decide) ?_) | refine jF (ptr_ok tblOk rfl rfl) ?_ | refine jO (fun _ => by kernel_rfl) ?_ | refine jF (by decide) ?_ | refine hS.ld rfl ?_ | refine hS.ldn rfl ?_ | (refine hS.st rfl rfl ?_; intro _ hS))
    exact ⟨rfl, hS.nil⟩
  rw [if_pos h8]
  repeat (first | refine SemW.run tblOk ?_ | refine jA (by omega) ?_ | refine jB (by omega) ?_ | refine jC (by omega) ?_ | refine jD (by omega) ?_ | refine jE rfl ?_ | refine jF (by omega) ?_ | (refine jG ?_; first | with_reducible (first | refine jH ?_ | refine jI ?_ | refine jJ ?_ | refine jK ?_ | refine jL ?_) | refine jM (by omega) ?_ | refine jN (by omega) ?_ | with_reducible refine jM rfl ?_ | refine jM (by assumption) ?_ | refine jN (by assumption) ?_ | refine jM (by decide) ?_ | refine jN (by decide) ?_) | refine jF (ptr_ok tblOk rfl rfl) ?_ | refine jO (fun _ => by kernel_rfl) ?_ | refine jF (by decide) ?_ | refine hS.ld rfl ?_ | refine hS.ldn rfl ?_ | (refine hS.st rfl rfl ?_; intro _ hS))
  refine SemW.loop (fun j : Nat => [(0, Str r), (2, ptr b2), (3, Str []), (4, .bool false), (5, .int .u64 (beV (r.take j) : Nat)), (11, .int .i64 j)])
    (fun j w' => (j ≤ 8 ∧ beV (r.take j) < 256 ^ j) ∧ St w [] [(b2, .cells ⟨partZ⟩ T_api_Part (0, 0))] w') (fun j => 8 - j) 0
    ⟨rfl, rfl, rfl, rfl, rfl, rfl, trivial⟩ ⟨⟨Nat.zero_le _, by rw [List.take_zero]; decide⟩, hS⟩ ?_
  clear hS
  rintro j w2 ⟨⟨hj, hb⟩, hS⟩
  by_cases hj8 : j < 8
  · have hjr : j < r.length := by omega
    have hsn := beV_snoc (r.take j) r[j]
    rw [← List.take_succ_eq_append_getElem hjr] at hsn
    have hgd : r.getD ((j : Int)).toNat 0 = r[j] := by simp [List.getD, List.getElem?_eq_getElem hjr]
    have hx := (r[j]).toNat_lt
    have hlt : beV (r.take j) < 72057594037927936 := Nat.lt_of_lt_of_le hb (Nat.pow_le_pow_right (n := 256) (by omega) (by omega : j ≤ 7))
    have hb2 : beV (r.take (j + 1)) < 256 ^ (j + 1) := by rw [Nat.pow_succ]; omega
    repeat (first | refine SemW.run tblOk ?_ | refine jA (by omega) ?_ | refine jB (by omega) ?_ | refine jC (by omega) ?_ | refine jD (by omega) ?_ | refine jE rfl ?_ | refine jF (by omega) ?_ | (refine jG ?_; first | with_reducible (first | refine jH ?_ | refine jI ?_ | refine jJ ?_ | refine jK ?_ | refine jL ?_) | refine jM (by omega) ?_ | refine jN (by omega) ?_ | with_reducible refine jM rfl ?_ | refine jM (by assumption) ?_ | refine jN (by assumption) ?_ | refine jM (by decide) ?_ | refine jN (by decide) ?_) | refine jF (ptr_ok tblOk rfl rfl) ?_ | refine jO (fun _ => by kernel_rfl) ?_ | refine jF (by decide) ?_ | refine hS.ld rfl ?_ | refine hS.ldn rfl ?_ | (refine hS.st rfl rfl ?_; intro _ hS))
    rw [hgd, be_step _ _ hlt, ← hsn]
    repeat (first | refine SemW.run tblOk ?_ | refine jA (by omega) ?_ | refine jB (by omega) ?_ | refine jC (by omega) ?_ | refine jD (by omega) ?_ | refine jE rfl ?_ | refine jF (by omega) ?_ | (refine jG ?_; first | with_reducible (first | refine jH ?_ | refine jI ?_ | refine jJ ?_ | refine jK ?_ | refine jL ?_) | refine jM (by omega) ?_ | refine jN (by omega) ?_ | with_reducible refine jM rfl ?_ | refine jM (by assumption) ?_ | refine jN (by assumption) ?_ | refine jM (by decide) ?_ | refine jN (by decide) ?_) | refine jF (ptr_ok tblOk rfl rfl) ?_ | refine jO (fun _ => by kernel_rfl) ?_ | refine jF (by decide) ?_ | refine hS.ld rfl ?_ | refine hS.ldn rfl ?_ | (refine hS.st rfl rfl ?_; intro _ hS))
    exact ⟨j + 1, ⟨rfl, rfl, rfl, rfl, rfl, rfl, trivial⟩, ⟨⟨by omega, hb2⟩, hS⟩, by omega⟩
  · have hj8 : j = 8 := by omega
    subst hj8
    have hub := unum_unb (l := r.take 8) (by rw [List.length_take]; omega)
    have hbl : beV (r.take 8) < 18446744073709551616 := hb
    repeat (first | refine SemW.run tblOk ?_ | refine jA (by omega) ?_ | refine jB (by omega) ?_ | refine jC (by omega) ?_ | refine jD (by omega) ?_ | refine jE rfl ?_ | refine jF (by omega) ?_ | (refine jG ?_; first | with_reducible (first | refine jH ?_ | refine jI ?_ | refine jJ ?_ | refine jK ?_ | refine jL ?_) | refine jM (by omega) ?_ | refine jN (by omega) ?_ | with_reducible refine jM rfl ?_ | refine jM (by assumption) ?_ | refine jN (by assumption) ?_ | refine jM (by decide) ?_ | refine jN (by decide) ?_) | refine jF (ptr_ok tblOk rfl rfl) ?_ | refine jO (fun _ => by kernel_rfl) ?_ | refine jF (by decide) ?_ | refine hS.ld rfl ?_ | refine hS.ldn rfl ?_ | (refine hS.st rfl rfl ?_; intro _ hS))
    refine SemW.draw tblOk mixed (fun w' => St w [] [] w') [] [0, 1, 2, 3, 4, 5, 6, 7, 8] (by kernel_rfl) hS.drew.nil ?_
    have hF := hS.drew
    have hS := hF.nil
    refine IntG.mk ?_
    rw [top_int _ hbl]
    repeat (first | refine SemW.run tblOk ?_ | refine jA (by omega) ?_ | refine jB (by omega) ?_ | refine jC (by omega) ?_ | refine jD (by omega) ?_ | refine jE rfl ?_ | refine jF (by omega) ?_ | (refine jG ?_; first | with_reducible (first | refine jH ?_ | refine jI ?_ | refine jJ ?_ | refine jK ?_ | refine jL ?_) | refine jM (by omega) ?_ | refine jN (by omega) ?_ | with_reducible refine jM rfl ?_ | refine jM (by assumption) ?_ | refine jN (by assumption) ?_ | refine jM (by decide) ?_ | refine jN (by decide) ?_) | refine jF (ptr_ok tblOk rfl rfl) ?_ | refine jO (fun _ => by kernel_rfl) ?_ | refine jF (by decide) ?_ | refine hS.ldC rfl ?_ | refine hS.ldnC rfl ?_)
    refine hF.st rfl rfl ?_
    intro _ hS
    refine Chk.mk hS.nil ?_
    repeat (first | refine SemW.run tblOk ?_ | refine jA (by omega) ?_ | refine jB (by omega) ?_ | refine jC (by omega) ?_ | refine jD (by omega) ?_ | refine jE rfl ?_ | refine jF (by omega) ?_ | (refine jG ?_; first | with_reducible (first | refine jH ?_ | refine jI ?_ | refine jJ ?_ | refine jK ?_ | refine jL ?_) | refine jM (by omega) ?_ | refine jN (by omega) ?_ | with_reducible refine jM rfl ?_ | refine jM (by assumption) ?_ | refine jN (by assumption) ?_ | refine jM (by decide) ?_ | refine jN (by decide) ?_) | refine jF (ptr_ok tblOk rfl rfl) ?_ | refine jO (fun _ => by kernel_rfl) ?_ | refine jF (by decide) ?_ | refine hS.ldC rfl ?_ | refine hS.ldnC rfl ?_)
    repeat (first | refine SemW.run tblOk ?_ | refine jA (by omega) ?_ | refine jB (by omega) ?_ | refine jC (by omega) ?_ | refine jD (by omega) ?_ | refine jE rfl ?_ | refine jF (by omega) ?_ | (refine jG ?_; first | with_reducible (first | refine jH ?_ | refine jI ?_ | refine jJ ?_ | refine jK ?_ | refine jL ?_) | refine jM (by omega) ?_ | refine jN (by omega) ?_ | with_reducible refine jM rfl ?_ | refine jM (by assumption) ?_ | refine jN (by assumption) ?_ | refine jM (by decide) ?_ | refine jN (by decide) ?_) | refine jF (ptr_ok tblOk rfl rfl) ?_ | refine jO (fun _ => by kernel_rfl) ?_ | refine jF (by decide) ?_ | refine hS.ld rfl ?_ | refine hS.ldn rfl ?_ | (refine hS.st rfl rfl ?_; intro _ hS))
    exact ⟨rfl, hS.nil⟩
structure TXI where
  i : Nat
  out : Bytes
  a : Option Addr
  c : Nat
set_option maxHeartbeats 4000000 in
theorem otext_spec {w : World} {r : Bytes} (hr : r.length ≤ 70368744177664) :
    Cl Tryz.prog f_order_text [Str r] w fun v w' => (v = match txtM r with
      | some (s, z) => .tuple ⟨[.agg ⟨partC (.text s)⟩, Str z, .bool true]⟩
      | none => .tuple ⟨[.agg ⟨partZ⟩, Str [], .bool false]⟩) ∧ St w [] [] w' := by
  have hS := St.start w
  refine en_order_text rfl ?_
  repeat (first | refine SemW.run tblOk ?_ | refine jA (by omega) ?_ | refine jB (by omega) ?_ | refine jC (by omega) ?_ | refine jD (by omega) ?_ | refine jE rfl ?_ | refine jF (by omega) ?_ | (refine jG ?_; first | with_reducible (first | refine jH ?_ | refine jI ?_ | refine jJ ?_ | refine jK ?_ | refine jL ?_) | refine jM (by omega) ?_ | refine jN (by omega) ?_ | with_reducible refine jM rfl ?_ | refine jM (by assumption) ?_ | refine jN (by assumption) ?_ | refine jM (by decide) ?_ | refine jN (by decide) ?_) | refine jF (ptr_ok tblOk rfl rfl) ?_ | refine jO (fun _ => by kernel_rfl) ?_ | refine jF (by decide) ?_)
  refine hS.al ?_
  intro b2 w1 _ hS
  repeat (first | refine SemW.run tblOk ?_ | refine jA (by omega) ?_ | refine jB (by omega) ?_ | refine jC (by omega) ?_ | refine jD (by omega) ?_ | refine jE rfl ?_ | refine jF (by omega) ?_ | (refine jG ?_; first | with_reducible (first | refine jH ?_ | refine jI ?_ | refine jJ ?_ | refine jK ?_ | refine jL ?_) | refine jM (by omega) ?_ | refine jN (by omega) ?_ | with_reducible refine jM rfl ?_ | refine jM (by assumption) ?_ | refine jN (by assumption) ?_ | refine jM (by decide) ?_ | refine jN (by decide) ?_) | refine jF (ptr_ok tblOk rfl rfl) ?_ | refine jO (fun _ => by kernel_rfl) ?_ | refine jF (by decide) ?_ | refine hS.ld rfl ?_ | refine hS.ldn rfl ?_ | (refine hS.st rfl rfl ?_; intro _ hS))
  refine SemW.loop (fun x : TXI => [(0, Str r), (2, ptr b2), (3, Str []), (4, .bool false), (5, .slice x.a x.out.length x.c), (6, .int .i64 x.i)])
    (fun x w' => (x.i ≤ r.length ∧ x.out.length ≤ x.i ∧ txtM r = (txtM (r.drop x.i)).map fun z => (x.out ++ z.1, z.2)) ∧ ∃ L, Vec T_uint8 1 x.a x.out.length x.c (x.out.map byteV) L ∧ St w [] (L ++ [(b2, .cells ⟨partZ⟩ T_api_Part (0, 0))]) w') (fun x => r.length - x.i) ⟨0, [], none, 0⟩
    ⟨rfl, rfl, rfl, rfl, rfl, rfl, trivial⟩ ⟨⟨Nat.zero_le _, Nat.le_refl _, by rw [List.drop_zero]; cases txtM r <;> rfl⟩, [], Vec.nil, hS⟩ ?_
  clear hS
  rintro ⟨i, out, a, c⟩ w2 ⟨⟨hi, hol, hx⟩, L, hv, hS⟩
  simp only at hi hol hx hv hS ⊢
  by_cases hil : i + 1 < r.length
  · have e1 := List.drop_eq_getElem_cons (show i < r.length by omega)
    have e2 := List.drop_eq_getElem_cons hil
    have hg1 : r.getD ((i : Int)).toNat 0 = r[i] := by simp [List.getD, List.getElem?_eq_getElem (show i < r.length by omega)]
    have hg2 : r.getD ((i : Int) + 1).toNat 0 = r[i + 1] := by
      rw [show ((i : Int) + 1).toNat = i + 1 by omega]
      simp [List.getD, List.getElem?_eq_getElem hil]
    generalize r[i] = ch at e1 hg1
    generalize r[i + 1] = dh at e2 hg2
    have hcb := ch.toNat_lt
    have hdb := dh.toNat_lt
    repeat (first | refine SemW.run tblOk ?_ | refine jA (by omega) ?_ | refine jB (by omega) ?_ | refine jC (by omega) ?_ | refine jD (by omega) ?_ | refine jE rfl ?_ | refine jF (by omega) ?_ | (refine jG ?_; first | with_reducible (first | refine jH ?_ | refine jI ?_ | refine jJ ?_ | refine jK ?_ | refine jL ?_) | refine jM (by omega) ?_ | refine jN (by omega) ?_ | with_reducible refine jM rfl ?_ | refine jM (by assumption) ?_ | refine jN (by assumption) ?_ | refine jM (by decide) ?_ | refine jN (by decide) ?_) | refine jF (ptr_ok tblOk rfl rfl) ?_ | refine jO (fun _ => by kernel_rfl) ?_ | refine jF (by decide) ?_ | refine hS.ld rfl ?_ | refine hS.ldn rfl ?_ | (refine hS.st rfl rfl ?_; intro _ hS))
    rw [hg1]
    by_cases hc : ch = 0
    · subst hc
      have hz : ((UInt8.toNat 0 : Nat) : Int) = 0 := rfl
      repeat (first | refine SemW.run tblOk ?_ | refine jA (by omega) ?_ | refine jB (by omega) ?_ | refine jC (by omega) ?_ | refine jD (by omega) ?_ | refine jE rfl ?_ | refine jF (by omega) ?_ | (refine jG ?_; first | with_reducible (first | refine jH ?_ | refine jI ?_ | refine jJ ?_ | refine jK ?_ | refine jL ?_) | refine jM (by omega) ?_ | refine jN (by omega) ?_ | with_reducible refine jM rfl ?_ | refine jM (by assumption) ?_ | refine jN (by assumption) ?_ | refine jM (by decide) ?_ | refine jN (by decide) ?_) | refine jF (ptr_ok tblOk rfl rfl) ?_ | refine jO (fun _ => by kernel_rfl) ?_ | refine jF (by decide) ?_ | refine hS.ld rfl ?_ | refine hS.ldn rfl ?_ | (refine hS.st rfl rfl ?_; intro _ hS))
      rw [hg2]
      by_cases hd : dh = 255
      · subst hd
        have hz2 : ((UInt8.toNat 255 : Nat) : Int) = 255 := rfl
        have hstep : txtM (r.drop i) = (txtM (r.drop (i + 1 + 1))).map fun z => (0 :: z.1, z.2) := by rw [e1, e2, txtM, if_neg (by simp), if_pos rfl]
        repeat (first | refine SemW.run tblOk ?_ | refine jA (by omega) ?_ | refine jB (by omega) ?_ | refine jC (by omega) ?_ | refine jD (by omega) ?_ | refine jE rfl ?_ | refine jF (by omega) ?_ | (refine jG ?_; first | with_reducible (first | refine jH ?_ | refine jI ?_ | refine jJ ?_ | refine jK ?_ | refine jL ?_) | refine jM (by omega) ?_ | refine jN (by omega) ?_ | with_reducible refine jM rfl ?_ | refine jM (by assumption) ?_ | refine jN (by assumption) ?_ | refine jM (by decide) ?_ | refine jN (by decide) ?_) | refine jF (ptr_ok tblOk rfl rfl) ?_ | refine jO (fun _ => by kernel_rfl) ?_ | refine jF (by decide) ?_ | refine hS.ld rfl ?_ | refine hS.ldn rfl ?_ | (refine hS.st rfl rfl ?_; intro _ hS))
        refine hS.al ?_
        intro q w4 _ hS
        repeat (first | refine SemW.run tblOk ?_ | refine jA (by omega) ?_ | refine jB (by omega) ?_ | refine jC (by omega) ?_ | refine jD (by omega) ?_ | refine jE rfl ?_ | refine jF (by omega) ?_ | (refine jG ?_; first | with_reducible (first | refine jH ?_ | refine jI ?_ | refine jJ ?_ | refine jK ?_ | refine jL ?_) | refine jM (by omega) ?_ | refine jN (by omega) ?_ | with_reducible refine jM rfl ?_ | refine jM (by assumption) ?_ | refine jN (by assumption) ?_ | refine jM (by decide) ?_ | refine jN (by decide) ?_) | refine jF (ptr_ok tblOk rfl rfl) ?_ | refine jO (fun _ => by kernel_rfl) ?_ | refine jF (by decide) ?_ | refine hS.ld rfl ?_ | refine hS.ldn rfl ?_ | (refine hS.st rfl rfl ?_; intro _ hS))
        refine St.app (sz := 1) (m := 1) tblOk rfl rfl rfl rfl hS hv (news := [byteV (0 : UInt8)]) rfl (by have := hS.arr (b := q) (T' := []) (by simp); exact this) rfl (by show (_ + _) * 1 ≤ _; omega) (by omega) ?_
        intro a2 c2 L2 w9 hv hS
        have e9 : out.map byteV ++ [byteV (0 : UInt8)] = (out ++ [(0 : UInt8)]).map byteV := by simp
        have e8 : out.length + 1 = (out ++ [(0 : UInt8)]).length := by simp
        rw [e9, e8] at hv
        rw [e8]
        repeat (first | refine SemW.run tblOk ?_ | refine jA (by omega) ?_ | refine jB (by omega) ?_ | refine jC (by omega) ?_ | refine jD (by omega) ?_ | refine jE rfl ?_ | refine jF (by omega) ?_ | (refine jG ?_; first | with_reducible (first | refine jH ?_ | refine jI ?_ | refine jJ ?_ | refine jK ?_ | refine jL ?_) | refine jM (by omega) ?_ | refine jN (by omega) ?_ | with_reducible refine jM rfl ?_ | refine jM (by assumption) ?_ | refine jN (by assumption) ?_ | refine jM (by decide) ?_ | refine jN (by decide) ?_) | refine jF (ptr_ok tblOk rfl rfl) ?_ | refine jO (fun _ => by kernel_rfl) ?_ | refine jF (by decide) ?_ | refine hS.ld rfl ?_ | refine hS.ldn rfl ?_ | (refine hS.st rfl rfl ?_; intro _ hS))
        refine ⟨⟨i + 1 + 1, out ++ [0], a2, c2⟩, ⟨rfl, rfl, rfl, rfl, rfl, rfl, trivial⟩, ⟨⟨by simp only; omega, by simp only [List.length_append, List.length_singleton]; omega, ?_⟩, L2, hv, hS.sub (List.sublist_cons_self _ _)⟩, by simp only; omega⟩
        simp only
        rw [hx, hstep]
        cases txtM (r.drop (i + 1 + 1)) <;> simp
      · have hdn : ¬ ((dh.toNat : Nat) : Int) = 255 := fun h => hd (UInt8.toNat_inj.1 (by show _ = 255; omega))
        repeat (first | refine SemW.run tblOk ?_ | refine jA (by omega) ?_ | refine jB (by omega) ?_ | refine jC (by omega) ?_ | refine jD (by omega) ?_ | refine jE rfl ?_ | refine jF (by omega) ?_ | (refine jG ?_; first | with_reducible (first | refine jH ?_ | refine jI ?_ | refine jJ ?_ | refine jK ?_ | refine jL ?_) | refine jM (by omega) ?_ | refine jN (by omega) ?_ | with_reducible refine jM rfl ?_ | refine jM (by assumption) ?_ | refine jN (by assumption) ?_ | refine jM (by decide) ?_ | refine jN (by decide) ?_) | refine jF (ptr_ok tblOk rfl rfl) ?_ | refine jO (fun _ => by kernel_rfl) ?_ | refine jF (by decide) ?_ | refine hS.ld rfl ?_ | refine hS.ldn rfl ?_ | (refine hS.st rfl rfl ?_; intro _ hS))
        rw [hg2]
        by_cases hd0 : dh = 0
        · subst hd0
          have hz2 : ((UInt8.toNat 0 : Nat) : Int) = 0 := rfl
          have hres : txtM r = some (out, r.drop (i + 1 + 1)) := by
            rw [hx, e1, e2, txtM, if_neg (by simp), if_neg (by decide), if_pos rfl]
            simp
          rw [hres]
          have hdr : (r.drop (((i : Int) + 2)).toNat) = r.drop (i + 1 + 1) := by rw [show ((i : Int) + 2).toNat = i + 1 + 1 by omega]
          repeat (first | refine SemW.run tblOk ?_ | refine jA (by omega) ?_ | refine jB (by omega) ?_ | refine jC (by omega) ?_ | refine jD (by omega) ?_ | refine jE rfl ?_ | refine jF (by omega) ?_ | (refine jG ?_; first | with_reducible (first | refine jH ?_ | refine jI ?_ | refine jJ ?_ | refine jK ?_ | refine jL ?_) | refine jM (by omega) ?_ | refine jN (by omega) ?_ | with_reducible refine jM rfl ?_ | refine jM (by assumption) ?_ | refine jN (by assumption) ?_ | refine jM (by decide) ?_ | refine jN (by decide) ?_) | refine jF (ptr_ok tblOk rfl rfl) ?_ | refine jO (fun _ => by kernel_rfl) ?_ | refine jF (by decide) ?_ | refine hS.ld rfl ?_ | refine hS.ldn rfl ?_ | (refine hS.st rfl rfl ?_; intro _ hS))
          refine SemW.draw tblOk mixed (fun w' => St w [] L w') [] [0, 1, 2, 3, 4, 5, 6, 7, 8, 9] (by kernel_rfl) (hS.drew.sub (List.sublist_append_left _ _)) ?_
          have hF := hS.drew
          have hS := hF.sub (List.sublist_append_left L _)
          repeat (first | refine SemW.run tblOk ?_ | refine jA (by omega) ?_ | refine jB (by omega) ?_ | refine jC (by omega) ?_ | refine jD (by omega) ?_ | refine jE rfl ?_ | refine jF (by omega) ?_ | (refine jG ?_; first | with_reducible (first | refine jH ?_ | refine jI ?_ | refine jJ ?_ | refine jK ?_ | refine jL ?_) | refine jM (by omega) ?_ | refine jN (by omega) ?_ | with_reducible refine jM rfl ?_ | refine jM (by assumption) ?_ | refine jN (by assumption) ?_ | refine jM (by decide) ?_ | refine jN (by decide) ?_) | refine jF (ptr_ok tblOk rfl rfl) ?_ | refine jO (fun _ => by kernel_rfl) ?_ | refine jF (by decide) ?_ | refine hS.ldC rfl ?_ | refine hS.ldnC rfl ?_)
          refine toStr (T := []) tblOk rfl rfl rfl rfl rfl rfl (bs := out) rfl (fun w' hw' => hv.arr (L := L) hw' (by simp)) ?_
          repeat (first | refine SemW.run tblOk ?_ | refine jA (by omega) ?_ | refine jB (by omega) ?_ | refine jC (by omega) ?_ | refine jD (by omega) ?_ | refine jE rfl ?_ | refine jF (by omega) ?_ | (refine jG ?_; first | with_reducible (first | refine jH ?_ | refine jI ?_ | refine jJ ?_ | refine jK ?_ | refine jL ?_) | refine jM (by omega) ?_ | refine jN (by omega) ?_ | with_reducible refine jM rfl ?_ | refine jM (by assumption) ?_ | refine jN (by assumption) ?_ | refine jM (by decide) ?_ | refine jN (by decide) ?_) | refine jF (ptr_ok tblOk rfl rfl) ?_ | refine jO (fun _ => by kernel_rfl) ?_ | refine jF (by decide) ?_ | refine hS.ldC rfl ?_ | refine hS.ldnC rfl ?_)
          refine hF.st rfl rfl ?_
          intro _ hF
          refine Chk.mk (hF.sub (List.sublist_append_left L _)) ?_
          repeat (first | refine SemW.run tblOk ?_ | refine jA (by omega) ?_ | refine jB (by omega) ?_ | refine jC (by omega) ?_ | refine jD (by omega) ?_ | refine jE rfl ?_ | refine jF (by omega) ?_ | (refine jG ?_; first | with_reducible (first | refine jH ?_ | refine jI ?_ | refine jJ ?_ | refine jK ?_ | refine jL ?_) | refine jM (by omega) ?_ | refine jN (by omega) ?_ | with_reducible refine jM rfl ?_ | refine jM (by assumption) ?_ | refine jN (by assumption) ?_ | refine jM (by decide) ?_ | refine jN (by decide) ?_) | refine jF (ptr_ok tblOk rfl rfl) ?_ | refine jO (fun _ => by kernel_rfl) ?_ | refine jF (by decide) ?_ | refine hS.ldC rfl ?_ | refine hS.ldnC rfl ?_)
          have hS := hF
          repeat (first | refine SemW.run tblOk ?_ | refine jA (by omega) ?_ | refine jB (by omega) ?_ | refine jC (by omega) ?_ | refine jD (by omega) ?_ | refine jE rfl ?_ | refine jF (by omega) ?_ | (refine jG ?_; first | with_reducible (first | refine jH ?_ | refine jI ?_ | refine jJ ?_ | refine jK ?_ | refine jL ?_) | refine jM (by omega) ?_ | refine jN (by omega) ?_ | with_reducible refine jM rfl ?_ | refine jM (by assumption) ?_ | refine jN (by assumption) ?_ | refine jM (by decide) ?_ | refine jN (by decide) ?_) | refine jF (ptr_ok tblOk rfl rfl) ?_ | refine jO (fun _ => by kernel_rfl) ?_ | refine jF (by decide) ?_ | refine hS.ld rfl ?_ | refine hS.ldn rfl ?_ | (refine hS.st rfl rfl ?_; intro _ hS))
          rw [hdr]
          exact ⟨rfl, hS.nil⟩
        · have hdn0 : ¬ ((dh.toNat : Nat) : Int) = 0 := fun h => hd0 (UInt8.toNat_inj.1 (by show _ = 0; omega))
          have hres : txtM r = none := by
            rw [hx, e1, e2, txtM, if_neg (by simp), if_neg hd, if_neg hd0]
            rfl
          rw [hres]
          repeat (first | refine SemW.run tblOk ?_ | refine jA (by omega) ?_ | refine jB (by omega) ?_ | refine jC (by omega) ?_ | refine jD (by omega) ?_ | refine jE rfl ?_ | refine jF (by omega) ?_ | (refine jG ?_; first | with_reducible (first | refine jH ?_ | refine jI ?_ | refine jJ ?_ | refine jK ?_ | refine jL ?_) | refine jM (by omega) ?_ | refine jN (by omega) ?_ | with_reducible refine jM rfl ?_ | refine jM (by assumption) ?_ | refine jN (by assumption) ?_ | refine jM (by decide) ?_ | refine jN (by decide) ?_) | refine jF (ptr_ok tblOk rfl rfl) ?_ | refine jO (fun _ => by kernel_rfl) ?_ | refine jF (by decide) ?_ | refine hS.ld rfl ?_ | refine hS.ldn rfl ?_ | (refine hS.st rfl rfl ?_; intro _ hS))
          exact ⟨rfl, hS.nil⟩
    · have hcn : ¬ ((ch.toNat : Nat) : Int) = 0 := fun h => hc (UInt8.toNat_inj.1 (by show _ = 0; omega))
      have hstep : txtM (r.drop i) = (txtM (r.drop (i + 1))).map fun z => (ch :: z.1, z.2) := by rw [e1, e2, txtM, if_pos hc]
      repeat (first | refine SemW.run tblOk ?_ | refine jA (by omega) ?_ | refine jB (by omega) ?_ | refine jC (by omega) ?_ | refine jD (by omega) ?_ | refine jE rfl ?_ | refine jF (by omega) ?_ | (refine jG ?_; first | with_reducible (first | refine jH ?_ | refine jI ?_ | refine jJ ?_ | refine jK ?_ | refine jL ?_) | refine jM (by omega) ?_ | refine jN (by omega) ?_ | with_reducible refine jM rfl ?_ | refine jM (by assumption) ?_ | refine jN (by assumption) ?_ | refine jM (by decide) ?_ | refine jN (by decide) ?_) | refine jF (ptr_ok tblOk rfl rfl) ?_ | refine jO (fun _ => by kernel_rfl) ?_ | refine jF (by decide) ?_ | refine hS.ld rfl ?_ | refine hS.ldn rfl ?_ | (refine hS.st rfl rfl ?_; intro _ hS))
      refine hS.al ?_
      intro q w4 _ hS
      repeat (first | refine SemW.run tblOk ?_ | refine jA (by omega) ?_ | refine jB (by omega) ?_ | refine jC (by omega) ?_ | refine jD (by omega) ?_ | refine jE rfl ?_ | refine jF (by omega) ?_ | (refine jG ?_; first | with_reducible (first | refine jH ?_ | refine jI ?_ | refine jJ ?_ | refine jK ?_ | refine jL ?_) | refine jM (by omega) ?_ | refine jN (by omega) ?_ | with_reducible refine jM rfl ?_ | refine jM (by assumption) ?_ | refine jN (by assumption) ?_ | refine jM (by decide) ?_ | refine jN (by decide) ?_) | refine jF (ptr_ok tblOk rfl rfl) ?_ | refine jO (fun _ => by kernel_rfl) ?_ | refine jF (by decide) ?_ | refine hS.ld rfl ?_ | refine hS.ldn rfl ?_ | (refine hS.st rfl rfl ?_; intro _ hS))
      refine St.app (sz := 1) (m := 1) tblOk rfl rfl rfl rfl hS hv (news := [byteV ch]) rfl (by have := hS.arr (b := q) (T' := []) (by simp); exact this) rfl (by show (_ + _) * 1 ≤ _; omega) (by omega) ?_
      intro a2 c2 L2 w9 hv hS
      have e9 : out.map byteV ++ [byteV ch] = (out ++ [ch]).map byteV := by simp
      have e8 : out.length + 1 = (out ++ [ch]).length := by simp
      rw [e9, e8] at hv
      rw [e8]
      repeat (first | refine SemW.run tblOk ?_ | refine jA (by omega) ?_ | refine jB (by omega) ?_ | refine jC (by omega) ?_ | refine jD (by omega) ?_ | refine jE rfl ?_ | refine jF (by omega) ?_ | (refine jG ?_; first | with_reducible (first | refine jH ?_ | refine jI ?_ | refine jJ ?_ | refine jK ?_ | refine jL ?_) | refine jM (by omega) ?_ | refine jN (by omega) ?_ | with_reducible refine jM rfl ?_ | refine jM (by assumption) ?_ | refine jN (by assumption) ?_ | refine jM (by decide) ?_ | refine jN (by decide) ?_) | refine jF (ptr_ok tblOk rfl rfl) ?_ | refine jO (fun _ => by kernel_rfl) ?_ | refine jF (by decide) ?_ | refine hS.ld rfl ?_ | refine hS.ldn rfl ?_ | (refine hS.st rfl rfl ?_; intro _ hS))
      refine ⟨⟨i + 1, out ++ [ch], a2, c2⟩, ⟨rfl, rfl, rfl, rfl, rfl, rfl, trivial⟩, ⟨⟨by simp only; omega, by simp only [List.length_append, List.length_singleton]; omega, ?_⟩, L2, hv, hS.sub (List.sublist_cons_self _ _)⟩, by simp only; omega⟩
      simp only
      rw [hx, hstep]
      cases txtM (r.drop (i + 1)) <;> simp
  · have hres : txtM r = none := by
      rw [hx]
      have hl : (r.drop i).length ≤ 1 := by rw [List.length_drop]; omega
      cases e : r.drop i with
      | nil => rfl
      | cons x y =>
        rw [e] at hl
        cases y with
        | nil => rfl
        | cons z y => simp at hl
    rw [hres]
    repeat (first | refine SemW.run tblOk ?_ | refine jA (by omega) ?_ | refine jB (by omega) ?_ | refine jC (by omega) ?_ | refine jD (by omega) ?_ | refine jE rfl ?_ | refine jF (by omega) ?_ | (refine jG ?_; first | with_reducible (first | refine jH ?_ | refine jI ?_ | refine jJ ?_ | refine jK ?_ | refine jL ?_) | refine jM (by omega) ?_ | refine jN (by omega) ?_ | with_reducible refine jM rfl ?_ | refine jM (by assumption) ?_ | refine jN (by assumption) ?_ | refine jM (by decide) ?_ | refine jN (by decide) ?_) | refine jF (ptr_ok tblOk rfl rfl) ?_ | refine jO (fun _ => by kernel_rfl) ?_ | refine jF (by decide) ?_ | refine hS.ld rfl ?_ | refine hS.ldn rfl ?_ | (refine hS.st rfl rfl ?_; intro _ hS))
    exact ⟨rfl, hS.nil⟩
end Go.Proofs.YthpmmfapolcaiaaGreatDoor

/- Package order: Split, all of it. -/
namespace Go.Proofs.YthpmmfapolcaiaaGreatDoor
open Go Go.Eng Go.Proofs
structure SPI where
  key : Bytes
  out : List PartM
  a : Option Addr
  c : Nat
/-- What splitting a key answers. -/
def SplPost (k : Bytes) (v : Value) (w w' : World) : Prop :=
  (∃ ps a cap L, v = .tuple ⟨[.slice a ps.length cap, .int .i64 0]⟩ ∧ Spl k ps ∧ Vec T_api_Part 3 a ps.length cap (ps.flatMap partC) L ∧ St w [] L w') ∨
  (v = .tuple ⟨[.slice none 0 0, .int .i64 3]⟩ ∧ (∀ ps, ¬ Spl k ps) ∧ St w [] [] w')
theorem partsC_one (l : List PartM) : (l.flatMap partC).all Value.oneCell' = true := by
  induction l with
  | nil => rfl
  | cons p ps ih => rw [List.flatMap_cons, List.all_append, ih]; cases p <;> rfl
theorem spl_push {k key rest : Bytes} {out : List PartM} {p : PartM} (hx : ∀ ps, Spl k ps ↔ ∃ qs, ps = out ++ qs ∧ Spl key qs) (hs : ∀ qs, Spl key qs ↔ ∃ q, qs = p :: q ∧ Spl rest q) :
    ∀ ps, Spl k ps ↔ ∃ qs, ps = (out ++ [p]) ++ qs ∧ Spl rest qs := fun ps => (hx ps).trans
  ⟨fun ⟨qs, e, hq⟩ => by obtain ⟨q, e', hq'⟩ := (hs qs).1 hq; exact ⟨q, by rw [e, e']; simp, hq'⟩,
   fun ⟨q, e, hq⟩ => ⟨p :: q, by rw [e]; simp, (hs _).2 ⟨q, rfl, hq⟩⟩⟩
set_option maxRecDepth 4000 in
set_option maxHeartbeats 4000000 in
theorem OSplit_spec {w : World} {k : Bytes} (hk : k.length ≤ 1048576) : Cl Tryz.prog f_order_Split [Str k] w fun v w' => SplPost k v w w' := by
  have hS := St.start w
  refine en_order_Split rfl ?_
  repeat (first | refine SemW.run tblOk ?_ | refine jA (by omega) ?_ | refine jB (by omega) ?_ | refine jC (by omega) ?_ | refine jD (by omega) ?_ | refine jE rfl ?_ | refine jF (by omega) ?_ | (refine jG ?_; first | with_reducible (first | refine jH ?_ | refine jI ?_ | refine jJ ?_ | refine jK ?_ | refine jL ?_) | refine jM (by omega) ?_ | refine jN (by omega) ?_ | with_reducible refine jM rfl ?_ | refine jM (by assumption) ?_ | refine jN (by assumption) ?_ | refine jM (by decide) ?_ | refine jN (by decide) ?_) | refine jF (ptr_ok tblOk rfl rfl) ?_ | refine jO (fun _ => by kernel_rfl) ?_ | refine jF (by decide) ?_)
  refine SemW.loop (fun x : SPI => [(0, Str x.key), (4, .slice x.a x.out.length x.c)])
    (fun x w' => (x.key.length + x.out.length ≤ k.length ∧ ∀ ps, Spl k ps ↔ ∃ qs, ps = x.out ++ qs ∧ Spl x.key qs) ∧ ∃ L, Vec T_api_Part 3 x.a x.out.length x.c (x.out.flatMap partC) L ∧ St w [] L w') (fun x => x.key.length) ⟨k, [], none, 0⟩
    ⟨rfl, rfl, trivial⟩ ⟨⟨Nat.le_refl _, fun ps => ⟨fun h => ⟨ps, rfl, h⟩, fun ⟨qs, e, h⟩ => by rw [e]; exact h⟩⟩, [], Vec.nil, hS⟩ ?_
  clear hS
  rintro ⟨key, out, a, c⟩ w2 ⟨⟨hl, hx⟩, L, hv, hS⟩
  simp only at hl hx hv hS ⊢
  by_cases hke : key = []
  · subst hke
    repeat (first | refine SemW.run tblOk ?_ | refine jA (by omega) ?_ | refine jB (by omega) ?_ | refine jC (by omega) ?_ | refine jD (by omega) ?_ | refine jE rfl ?_ | refine jF (by omega) ?_ | (refine jG ?_; first | with_reducible (first | refine jH ?_ | refine jI ?_ | refine jJ ?_ | refine jK ?_ | refine jL ?_) | refine jM (by omega) ?_ | refine jN (by omega) ?_ | with_reducible refine jM rfl ?_ | refine jM (by assumption) ?_ | refine jN (by assumption) ?_ | refine jM (by decide) ?_ | refine jN (by decide) ?_) | refine jF (ptr_ok tblOk rfl rfl) ?_ | refine jO (fun _ => by kernel_rfl) ?_ | refine jF (by decide) ?_ | refine hS.ld rfl ?_ | refine hS.ldn rfl ?_ | (refine hS.st rfl rfl ?_; intro _ hS))
    exact .inl ⟨out, a, c, L, rfl, (hx out).2 ⟨[], by simp, spl_nil.2 rfl⟩, hv, hS⟩
  obtain ⟨ch, r, hkr⟩ : ∃ ch r, key = ch :: r := by
    cases key with
    | nil => exact absurd rfl hke
    | cons ch r => exact ⟨ch, r, rfl⟩
  have hkl : key.length = r.length + 1 := by rw [hkr]; rfl
  have hgd : key.getD (Int.toNat 0) 0 = ch := by rw [hkr]; rfl
  have hdr : key.drop (Int.toNat 1) = r := by rw [hkr]; rfl
  have hcb := ch.toNat_lt
  repeat (first | refine SemW.run tblOk ?_ | refine jA (by omega) ?_ | refine jB (by omega) ?_ | refine jC (by omega) ?_ | refine jD (by omega) ?_ | refine jE rfl ?_ | refine jF (by omega) ?_ | (refine jG ?_; first | with_reducible (first | refine jH ?_ | refine jI ?_ | refine jJ ?_ | refine jK ?_ | refine jL ?_) | refine jM (by omega) ?_ | refine jN (by omega) ?_ | with_reducible refine jM rfl ?_ | refine jM (by assumption) ?_ | refine jN (by assumption) ?_ | refine jM (by decide) ?_ | refine jN (by decide) ?_) | refine jF (ptr_ok tblOk rfl rfl) ?_ | refine jO (fun _ => by kernel_rfl) ?_ | refine jF (by decide) ?_ | refine hS.ld rfl ?_ | refine hS.ldn rfl ?_ | (refine hS.st rfl rfl ?_; intro _ hS))
  refine hS.al ?_
  intro b5 w3 _ hS
  repeat (first | refine SemW.run tblOk ?_ | refine jA (by omega) ?_ | refine jB (by omega) ?_ | refine jC (by omega) ?_ | refine jD (by omega) ?_ | refine jE rfl ?_ | refine jF (by omega) ?_ | (refine jG ?_; first | with_reducible (first | refine jH ?_ | refine jI ?_ | refine jJ ?_ | refine jK ?_ | refine jL ?_) | refine jM (by omega) ?_ | refine jN (by omega) ?_ | with_reducible refine jM rfl ?_ | refine jM (by assumption) ?_ | refine jN (by assumption) ?_ | refine jM (by decide) ?_ | refine jN (by decide) ?_) | refine jF (ptr_ok tblOk rfl rfl) ?_ | refine jO (fun _ => by kernel_rfl) ?_ | refine jF (by decide) ?_ | refine hS.ld rfl ?_ | refine hS.ldn rfl ?_ | (refine hS.st rfl rfl ?_; intro _ hS))
  rw [hgd]
  by_cases h1 : ch = 1
  · subst h1
    have hz1 : ((UInt8.toNat 1 : Nat) : Int) = 1 := rfl
    repeat (first | refine SemW.run tblOk ?_ | refine jA (by omega) ?_ | refine jB (by omega) ?_ | refine jC (by omega) ?_ | refine jD (by omega) ?_ | refine jE rfl ?_ | refine jF (by omega) ?_ | (refine jG ?_; first | with_reducible (first | refine jH ?_ | refine jI ?_ | refine jJ ?_ | refine jK ?_ | refine jL ?_) | refine jM (by omega) ?_ | refine jN (by omega) ?_ | with_reducible refine jM rfl ?_ | refine jM (by assumption) ?_ | refine jN (by assumption) ?_ | refine jM (by decide) ?_ | refine jN (by decide) ?_) | refine jF (ptr_ok tblOk rfl rfl) ?_ | refine jO (fun _ => by kernel_rfl) ?_ | refine jF (by decide) ?_ | refine hS.ld rfl ?_ | refine hS.ldn rfl ?_ | (refine hS.st rfl rfl ?_; intro _ hS))
    rw [hdr]
    refine Cl.mono (onumber_spec (by omega)) ?_
    rintro _ w4 ⟨rfl, hS'⟩
    have hS := hS.call0 hS'
    by_cases h8 : 8 ≤ r.length
    · rw [if_pos h8]
      unfold partC
      repeat (first | refine SemW.run tblOk ?_ | refine jA (by omega) ?_ | refine jB (by omega) ?_ | refine jC (by omega) ?_ | refine jD (by omega) ?_ | refine jE rfl ?_ | refine jF (by omega) ?_ | (refine jG ?_; first | with_reducible (first | refine jH ?_ | refine jI ?_ | refine jJ ?_ | refine jK ?_ | refine jL ?_) | refine jM (by omega) ?_ | refine jN (by omega) ?_ | with_reducible refine jM rfl ?_ | refine jM (by assumption) ?_ | refine jN (by assumption) ?_ | refine jM (by decide) ?_ | refine jN (by decide) ?_) | refine jF (ptr_ok tblOk rfl rfl) ?_ | refine jO (fun _ => by kernel_rfl) ?_ | refine jF (by decide) ?_ | refine hS.ld rfl ?_ | refine hS.ldn rfl ?_ | (refine hS.st rfl rfl ?_; intro _ hS))
      refine hS.al ?_
      intro q w6 _ hS
      repeat (first | refine SemW.run tblOk ?_ | refine jA (by omega) ?_ | refine jB (by omega) ?_ | refine jC (by omega) ?_ | refine jD (by omega) ?_ | refine jE rfl ?_ | refine jF (by omega) ?_ | (refine jG ?_; first | with_reducible (first | refine jH ?_ | refine jI ?_ | refine jJ ?_ | refine jK ?_ | refine jL ?_) | refine jM (by omega) ?_ | refine jN (by omega) ?_ | with_reducible refine jM rfl ?_ | refine jM (by assumption) ?_ | refine jN (by assumption) ?_ | refine jM (by decide) ?_ | refine jN (by decide) ?_) | refine jF (ptr_ok tblOk rfl rfl) ?_ | refine jO (fun _ => by kernel_rfl) ?_ | refine jF (by decide) ?_ | refine hS.ld rfl ?_ | refine hS.ldn rfl ?_ | (refine hS.st rfl rfl ?_; intro _ hS))
      refine St.app (sz := 3) (m := 1) tblOk rfl rfl rfl rfl hS hv (news := partC (PartM.num (unb (r.take 8)))) rfl (by have := hS.arr (b := q) (T' := []) (by simp); exact this) rfl (by show (_ + _) * 32 ≤ _; omega) (by omega) ?_
      intro a2 c2 L2 w9 hv hS
      have e9 : out.flatMap partC ++ partC (PartM.num (unb (r.take 8))) = (out ++ [PartM.num (unb (r.take 8))]).flatMap partC := by simp
      have e8 : out.length + 1 = (out ++ [PartM.num (unb (r.take 8))]).length := by simp
      rw [e9, e8] at hv
      rw [e8]
      repeat (first | refine SemW.run tblOk ?_ | refine jA (by omega) ?_ | refine jB (by omega) ?_ | refine jC (by omega) ?_ | refine jD (by omega) ?_ | refine jE rfl ?_ | refine jF (by omega) ?_ | (refine jG ?_; first | with_reducible (first | refine jH ?_ | refine jI ?_ | refine jJ ?_ | refine jK ?_ | refine jL ?_) | refine jM (by omega) ?_ | refine jN (by omega) ?_ | with_reducible refine jM rfl ?_ | refine jM (by assumption) ?_ | refine jN (by assumption) ?_ | refine jM (by decide) ?_ | refine jN (by decide) ?_) | refine jF (ptr_ok tblOk rfl rfl) ?_ | refine jO (fun _ => by kernel_rfl) ?_ | refine jF (by decide) ?_ | refine hS.ld rfl ?_ | refine hS.ldn rfl ?_ | (refine hS.st rfl rfl ?_; intro _ hS))
      refine ⟨⟨r.drop 8, out ++ [PartM.num (unb (r.take 8))], a2, c2⟩, ⟨rfl, rfl, trivial⟩, ⟨⟨by simp only [List.length_append, List.length_singleton, List.length_drop]; omega, spl_push hx fun qs => ?_⟩, L2, hv, hS.sub ((List.sublist_cons_self _ _).trans (List.sublist_cons_self _ _))⟩, by simp only [List.length_drop]; omega⟩
      rw [hkr]; exact spl_num h8
    · rw [if_neg h8]
      repeat (first | refine SemW.run tblOk ?_ | refine jA (by omega) ?_ | refine jB (by omega) ?_ | refine jC (by omega) ?_ | refine jD (by omega) ?_ | refine jE rfl ?_ | refine jF (by omega) ?_ | (refine jG ?_; first | with_reducible (first | refine jH ?_ | refine jI ?_ | refine jJ ?_ | refine jK ?_ | refine jL ?_) | refine jM (by omega) ?_ | refine jN (by omega) ?_ | with_reducible refine jM rfl ?_ | refine jM (by assumption) ?_ | refine jN (by assumption) ?_ | refine jM (by decide) ?_ | refine jN (by decide) ?_) | refine jF (ptr_ok tblOk rfl rfl) ?_ | refine jO (fun _ => by kernel_rfl) ?_ | refine jF (by decide) ?_ | refine hS.ld rfl ?_ | refine hS.ldn rfl ?_ | (refine hS.st rfl rfl ?_; intro _ hS))
      exact .inr ⟨rfl, fun ps hps => by obtain ⟨qs, -, hq⟩ := (hx ps).1 hps; exact spl_num_no (r := r) (by omega) qs (by rw [← hkr]; exact hq), hS.nil⟩
  have hn1 : ¬ ((ch.toNat : Nat) : Int) = 1 := fun h => h1 (UInt8.toNat_inj.1 (by show _ = 1; omega))
  by_cases h2 : ch = 2
  · subst h2
    have hz1 : ((UInt8.toNat 2 : Nat) : Int) = 2 := rfl
    repeat (first | refine SemW.run tblOk ?_ | refine jA (by omega) ?_ | refine jB (by omega) ?_ | refine jC (by omega) ?_ | refine jD (by omega) ?_ | refine jE rfl ?_ | refine jF (by omega) ?_ | (refine jG ?_; first | with_reducible (first | refine jH ?_ | refine jI ?_ | refine jJ ?_ | refine jK ?_ | refine jL ?_) | refine jM (by omega) ?_ | refine jN (by omega) ?_ | with_reducible refine jM rfl ?_ | refine jM (by assumption) ?_ | refine jN (by assumption) ?_ | refine jM (by decide) ?_ | refine jN (by decide) ?_) | refine jF (ptr_ok tblOk rfl rfl) ?_ | refine jO (fun _ => by kernel_rfl) ?_ | refine jF (by decide) ?_ | refine hS.ld rfl ?_ | refine hS.ldn rfl ?_ | (refine hS.st rfl rfl ?_; intro _ hS))
    rw [hdr]
    refine Cl.mono (otext_spec (by omega)) ?_
    rintro _ w4 ⟨rfl, hS'⟩
    have hS := hS.call0 hS'
    cases ht : txtM r with
    | none =>
      simp only
      repeat (first | refine SemW.run tblOk ?_ | refine jA (by omega) ?_ | refine jB (by omega) ?_ | refine jC (by omega) ?_ | refine jD (by omega) ?_ | refine jE rfl ?_ | refine jF (by omega) ?_ | (refine jG ?_; first | with_reducible (first | refine jH ?_ | refine jI ?_ | refine jJ ?_ | refine jK ?_ | refine jL ?_) | refine jM (by omega) ?_ | refine jN (by omega) ?_ | with_reducible refine jM rfl ?_ | refine jM (by assumption) ?_ | refine jN (by assumption) ?_ | refine jM (by decide) ?_ | refine jN (by decide) ?_) | refine jF (ptr_ok tblOk rfl rfl) ?_ | refine jO (fun _ => by kernel_rfl) ?_ | refine jF (by decide) ?_ | refine hS.ld rfl ?_ | refine hS.ldn rfl ?_ | (refine hS.st rfl rfl ?_; intro _ hS))
      exact .inr ⟨rfl, fun ps hps => by obtain ⟨qs, -, hq⟩ := (hx ps).1 hps; exact spl_text_no ht qs (by rw [← hkr]; exact hq), hS.nil⟩
    | some z =>
      obtain ⟨s, z⟩ := z
      simp only
      unfold partC
      repeat (first | refine SemW.run tblOk ?_ | refine jA (by omega) ?_ | refine jB (by omega) ?_ | refine jC (by omega) ?_ | refine jD (by omega) ?_ | refine jE rfl ?_ | refine jF (by omega) ?_ | (refine jG ?_; first | with_reducible (first | refine jH ?_ | refine jI ?_ | refine jJ ?_ | refine jK ?_ | refine jL ?_) | refine jM (by omega) ?_ | refine jN (by omega) ?_ | with_reducible refine jM rfl ?_ | refine jM (by assumption) ?_ | refine jN (by assumption) ?_ | refine jM (by decide) ?_ | refine jN (by decide) ?_) | refine jF (ptr_ok tblOk rfl rfl) ?_ | refine jO (fun _ => by kernel_rfl) ?_ | refine jF (by decide) ?_ | refine hS.ld rfl ?_ | refine hS.ldn rfl ?_ | (refine hS.st rfl rfl ?_; intro _ hS))
      refine hS.al ?_
      intro q w6 _ hS
      repeat (first | refine SemW.run tblOk ?_ | refine jA (by omega) ?_ | refine jB (by omega) ?_ | refine jC (by omega) ?_ | refine jD (by omega) ?_ | refine jE rfl ?_ | refine jF (by omega) ?_ | (refine jG ?_; first | with_reducible (first | refine jH ?_ | refine jI ?_ | refine jJ ?_ | refine jK ?_ | refine jL ?_) | refine jM (by omega) ?_ | refine jN (by omega) ?_ | with_reducible refine jM rfl ?_ | refine jM (by assumption) ?_ | refine jN (by assumption) ?_ | refine jM (by decide) ?_ | refine jN (by decide) ?_) | refine jF (ptr_ok tblOk rfl rfl) ?_ | refine jO (fun _ => by kernel_rfl) ?_ | refine jF (by decide) ?_ | refine hS.ld rfl ?_ | refine hS.ldn rfl ?_ | (refine hS.st rfl rfl ?_; intro _ hS))
      refine St.app (sz := 3) (m := 1) tblOk rfl rfl rfl rfl hS hv (news := partC (PartM.text s)) rfl (by have := hS.arr (b := q) (T' := []) (by simp); exact this) rfl (by show (_ + _) * 32 ≤ _; omega) (by omega) ?_
      intro a2 c2 L2 w9 hv hS
      have e9 : out.flatMap partC ++ partC (PartM.text s) = (out ++ [PartM.text s]).flatMap partC := by simp
      have e8 : out.length + 1 = (out ++ [PartM.text s]).length := by simp
      rw [e9, e8] at hv
      rw [e8]
      repeat (first | refine SemW.run tblOk ?_ | refine jA (by omega) ?_ | refine jB (by omega) ?_ | refine jC (by omega) ?_ | refine jD (by omega) ?_ | refine jE rfl ?_ | refine jF (by omega) ?_ | (refine jG ?_; first | with_reducible (first | refine jH ?_ | refine jI ?_ | refine jJ ?_ | refine jK ?_ | refine jL ?_) | refine jM (by omega) ?_ | refine jN (by omega) ?_ | with_reducible refine jM rfl ?_ | refine jM (by assumption) ?_ | refine jN (by assumption) ?_ | refine jM (by decide) ?_ | refine jN (by decide) ?_) | refine jF (ptr_ok tblOk rfl rfl) ?_ | refine jO (fun _ => by kernel_rfl) ?_ | refine jF (by decide) ?_ | refine hS.ld rfl ?_ | refine hS.ldn rfl ?_ | (refine hS.st rfl rfl ?_; intro _ hS))
      have hzl : z.length + 2 ≤ r.length := by rw [txtM_iff.1 ht]; simp only [List.length_append, List.length_cons]; omega
      refine ⟨⟨z, out ++ [PartM.text s], a2, c2⟩, ⟨rfl, rfl, trivial⟩, ⟨⟨by simp only [List.length_append, List.length_singleton]; omega, spl_push hx fun qs => ?_⟩, L2, hv, hS.sub ((List.sublist_cons_self _ _).trans (List.sublist_cons_self _ _))⟩, by simp only; omega⟩
      rw [hkr]; exact spl_text ht
  · have hn2 : ¬ ((ch.toNat : Nat) : Int) = 2 := fun h => h2 (UInt8.toNat_inj.1 (by show _ = 2; omega))
    repeat (first | refine SemW.run tblOk ?_ | refine jA (by omega) ?_ | refine jB (by omega) ?_ | refine jC (by omega) ?_ | refine jD (by omega) ?_ | refine jE rfl ?_ | refine jF (by omega) ?_ | (refine jG ?_; first | with_reducible (first | refine jH ?_ | refine jI ?_ | refine jJ ?_ | refine jK ?_ | refine jL ?_) | refine jM (by omega) ?_ | refine jN (by omega) ?_ | with_reducible refine jM rfl ?_ | refine jM (by assumption) ?_ | refine jN (by assumption) ?_ | refine jM (by decide) ?_ | refine jN (by decide) ?_) | refine jF (ptr_ok tblOk rfl rfl) ?_ | refine jO (fun _ => by kernel_rfl) ?_ | refine jF (by decide) ?_ | refine hS.ld rfl ?_ | refine hS.ldn rfl ?_ | (refine hS.st rfl rfl ?_; intro _ hS))
    exact .inr ⟨rfl, fun ps hps => by obtain ⟨qs, -, hq⟩ := (hx ps).1 hps; exact spl_other h1 h2 qs (by rw [← hkr]; exact hq), hS.nil⟩
end Go.Proofs.YthpmmfapolcaiaaGreatDoor

/- == on arrays, item by item. -/
namespace Go.Eng
open Go
section
variable {P : Program} {T0 : Tbl}
def EqIt (n : Nat) (P : Program) (e : TypeId) (sz : Nat) (xs ys : List Value) (is : List Nat) (r : Bool) : Prop := ∀ k w, (Op.eqItems (k + n) e sz ⟨xs⟩ ⟨ys⟩ is).run P w = .ok r w
theorem EqIt.nil {n : Nat} {e : TypeId} {sz : Nat} {xs ys : List Value} : EqIt n P e sz xs ys [] true := fun k w => by simp [Op.eqItems]
theorem EqIt.cons {n : Nat} {e : TypeId} {sz i : Nat} {xs ys : List Value} {is : List Nat} {a b : Value} {r1 r2 : Bool} (h1 : PartIs P e xs (i * sz) a) (h2 : PartIs P e ys (i * sz) b) (h3 : EqV n P e a b r1) (h4 : EqIt n P e sz xs ys is r2) : EqIt n P e sz xs ys (i :: is) (r1 && r2) := fun k w => by
  have e4 := h4 k w
  simp only [Op.eqItems, Sem.run_bind, h1 w, h2 w, h3 k w, Result.andThen_ok]
  cases r1 with
  | false => simp
  | true => simp [e4]
theorem EqV.arr {n m sz : Nat} {t e : TypeId} {i : TypeInfo} (hu : P.underlying t = some (.array m e)) (hi : P.info? e = some i) (hs : P.cellsOf e = sz) {xs ys : List Value} {r : Bool} (h : EqIt n P e sz xs ys (List.range m) r) : EqV (n + 1) P t (.agg ⟨xs⟩) (.agg ⟨ys⟩) r := fun k w => by
  rw [show k + (n + 1) = (k + n) + 1 by omega, run_equalIn_array w (k + n) ⟨xs⟩ ⟨ys⟩ hu hi, hs]
  exact h k w
end
end Go.Eng

/- Rows that can be read. -/
namespace Go.Proofs.YthpmmfapolcaiaaGreatDoor
open Go Go.Eng Go.Proofs
theorem flatRow_at (rs : List RowM) (k : Nat) (hk : k < rs.length) (j : Nat) (hj : j < 5) : (rs.flatMap rowC)[k * 5 + j]? = (rowC rs[k])[j]? := by
  induction rs generalizing k with
  | nil => simp at hk
  | cons r rs ih =>
    have hl : (rowC r).length = 5 := rfl
    rw [List.flatMap_cons]
    cases k with
    | zero => rw [List.getElem?_append_left (by omega), Nat.zero_mul, Nat.zero_add]; rfl
    | succ k =>
      rw [List.getElem?_append_right (by omega), hl, show (k + 1) * 5 + j - 5 = k * 5 + j by omega]
      exact ih k (by simpa using hk)
theorem flatRow_len (rs : List RowM) : (rs.flatMap rowC).length = rs.length * 5 := by
  induction rs with
  | nil => rfl
  | cons r rs ih => rw [List.flatMap_cons, List.length_append, ih, List.length_cons]; show 5 + _ = _; omega
/-- Rows that can be read. -/
structure RowsAt (w : World) (a : Option Addr) (cap : Nat) (rs : List RowM) : Prop where
  arr : Arr w [] a (rs.flatMap rowC)
  cap : rs.length ≤ cap
theorem RowsAt.keep {w0 w : World} {H : Heap} (hS : St w0 [] H w) {a : Option Addr} {cap : Nat} {rs : List RowM} (h : RowsAt w0 a cap rs) : RowsAt w a cap rs := ⟨hS.arrOld h.arr, h.cap⟩
theorem RowsAt.pos {w : World} {a : Option Addr} {cap : Nat} {l : List RowM} (h : RowsAt w a cap l) (hl : 0 < l.length) : ∃ g off, a = some ⟨g, off, none⟩ := by
  have := flatRow_len l
  obtain ⟨g, off, hg, -, -⟩ := h.arr.get (j := 0) (by omega)
  exact ⟨g, off, hg⟩
theorem flatRow_take (rs : List RowM) (k : Nat) (hk : k < rs.length) : ((rs.flatMap rowC).drop (k * 5)).take 5 = rowC rs[k] := by
  apply List.ext_getElem?
  intro j
  rw [List.getElem?_take]
  split
  · next hj => rw [List.getElem?_drop, flatRow_at rs k hk j hj]
  · next hj => rw [List.getElem?_eq_none (by show 5 ≤ j; omega)]
theorem rowsAt_vec {w0 w : World} {T : List Nat} {H L : Heap} {F : Heap → Heap} (hS : St w0 T H w) [hc : Chunk H L F] {a : Option Addr} {n cap : Nat} {l : List RowM} (hv : Vec T_api_Row 5 a n cap (l.flatMap rowC) L) : RowsAt w a cap l := by
  have h1 := flatRow_len l
  have h2 := hv.len
  exact ⟨hv.arr hS (by simp), by have := hv.cap; omega⟩
theorem rowsC_one (l : List RowM) : (l.flatMap rowC).all Value.oneCell' = true := by
  induction l with
  | nil => rfl
  | cons p ps ih => rw [List.flatMap_cons, List.all_append, ih]; rfl
abbrev rowV (r : RowM) : Value := .agg ⟨rowC r⟩
theorem eqRow (a b : RowM) : EqV 2 Tryz.prog T_api_Row (rowV a) (rowV b) (decide (a = b)) := by
  have h : EqV 2 Tryz.prog T_api_Row (rowV a) (rowV b) (decide (a.num = b.num) && (decide (a.cab = b.cab) && (decide (a.zone = b.zone) && (decide (a.exit = b.exit) && (decide (a.seats = b.seats) && true))))) := by
    refine EqV.struct (d := [(T_int, 0), (T_int, 1), (T_int, 2), (T_bool, 3), (T_string, 4)]) (by kernel_rfl) (by kernel_rfl) (by kernel_rfl) ?_
    refine EqFs.cons (PartIs.one tblOk rfl rfl rfl) (PartIs.one tblOk rfl rfl rfl) (EqV.int tblOk rfl rfl _ _) ?_
    refine EqFs.cons (PartIs.one tblOk rfl rfl rfl) (PartIs.one tblOk rfl rfl rfl) (EqV.int tblOk rfl rfl _ _) ?_
    refine EqFs.cons (PartIs.one tblOk rfl rfl rfl) (PartIs.one tblOk rfl rfl rfl) (EqV.int tblOk rfl rfl _ _) ?_
    refine EqFs.cons (PartIs.one tblOk rfl rfl rfl) (PartIs.one tblOk rfl rfl rfl) (EqV.bool tblOk rfl rfl _ _) ?_
    exact EqFs.cons (PartIs.one tblOk rfl rfl rfl) (PartIs.one tblOk rfl rfl rfl) (EqV.str tblOk rfl rfl _ _) EqFs.nil
  have e : decide (a = b) = (decide (a.num = b.num) && (decide (a.cab = b.cab) && (decide (a.zone = b.zone) && (decide (a.exit = b.exit) && (decide (a.seats = b.seats) && true))))) := by
    rw [Bool.eq_iff_iff]
    simp only [decide_eq_true_eq, Bool.and_eq_true, and_true]
    constructor
    · rintro rfl; exact ⟨rfl, rfl, rfl, rfl, rfl⟩
    · rintro ⟨h1, h2, h3, h4, h5⟩
      cases a; cases b
      simp only at h1 h2 h3 h4 h5
      rw [h1, h2, h3, h4, h5]
  rw [e]; exact h
end Go.Proofs.YthpmmfapolcaiaaGreatDoor

/- Package rows: equip, flight, pax of a reader. -/
namespace Go.Proofs.YthpmmfapolcaiaaGreatDoor
open Go Go.Eng Go.Proofs
set_option maxRecDepth 4000 in
set_option maxHeartbeats 8000000 in
theorem rrflight_spec {w : World} {xr rb : Nat} {s : RB} {id : Int} (hh : Holds (rrH xr rb s) w) (ht : s.t.length ≤ 1000000000) :
    Cl Tryz.prog f_rows_reader_flight [ptr xr, .int .i64 id] w fun v w' => v = .agg ⟨flC (rFl s id).1⟩ ∧ St w [xr, rb] (rrH xr rb (rFl s id).2) w' := by
  have hS : St w [xr, rb] (rrH xr rb s) w := St.enter hh
  refine en_rows_reader_flight rfl ?_
  repeat (first | refine SemW.run tblOk ?_ | refine jA (by omega) ?_ | refine jB (by omega) ?_ | refine jC (by omega) ?_ | refine jD (by omega) ?_ | refine jE rfl ?_ | refine jF (by omega) ?_ | (refine jG ?_; first | with_reducible (first | refine jH ?_ | refine jI ?_ | refine jJ ?_ | refine jK ?_ | refine jL ?_) | refine jM (by omega) ?_ | refine jN (by omega) ?_ | with_reducible refine jM rfl ?_ | refine jM (by assumption) ?_ | refine jN (by assumption) ?_ | refine jM (by decide) ?_ | refine jN (by decide) ?_) | refine jF (ptr_ok tblOk rfl rfl) ?_ | refine jO (fun _ => by kernel_rfl) ?_ | refine jF (by decide) ?_ | refine hS.ld rfl ?_ | refine hS.ldn rfl ?_ | (refine hS.st rfl rfl ?_; intro _ hS))
  refine hS.al ?_
  intro b4 w1 _ hS
  repeat (first | refine SemW.run tblOk ?_ | refine jA (by omega) ?_ | refine jB (by omega) ?_ | refine jC (by omega) ?_ | refine jD (by omega) ?_ | refine jE rfl ?_ | refine jF (by omega) ?_ | (refine jG ?_; first | with_reducible (first | refine jH ?_ | refine jI ?_ | refine jJ ?_ | refine jK ?_ | refine jL ?_) | refine jM (by omega) ?_ | refine jN (by omega) ?_ | with_reducible refine jM rfl ?_ | refine jM (by assumption) ?_ | refine jN (by assumption) ?_ | refine jM (by decide) ?_ | refine jN (by decide) ?_) | refine jF (ptr_ok tblOk rfl rfl) ?_ | refine jO (fun _ => by kernel_rfl) ?_ | refine jF (by decide) ?_ | refine hS.ld rfl ?_ | refine hS.ldn rfl ?_ | (refine hS.st rfl rfl ?_; intro _ hS))
  refine Cl.mono (rrint_spec (s := s) (hS.part (L := rrH xr rb (s))) (by omega)) ?_
  rintro _ w8 ⟨rfl, hS'⟩
  have hS := hS.call (L := rrH xr rb (s)) hS'
  have ht := Nat.le_trans (rbInt_t s) ht
  repeat (first | refine SemW.run tblOk ?_ | refine jA (by omega) ?_ | refine jB (by omega) ?_ | refine jC (by omega) ?_ | refine jD (by omega) ?_ | refine jE rfl ?_ | refine jF (by omega) ?_ | (refine jG ?_; first | with_reducible (first | refine jH ?_ | refine jI ?_ | refine jJ ?_ | refine jK ?_ | refine jL ?_) | refine jM (by omega) ?_ | refine jN (by omega) ?_ | with_reducible refine jM rfl ?_ | refine jM (by assumption) ?_ | refine jN (by assumption) ?_ | refine jM (by decide) ?_ | refine jN (by decide) ?_) | refine jF (ptr_ok tblOk rfl rfl) ?_ | refine jO (fun _ => by kernel_rfl) ?_ | refine jF (by decide) ?_ | refine hS.ld rfl ?_ | refine hS.ldn rfl ?_ | (refine hS.st rfl rfl ?_; intro _ hS))
  refine Cl.mono (rrint_spec (s := (rbInt s).2) (hS.part (L := rrH xr rb ((rbInt s).2))) (by omega)) ?_
  rintro _ w8 ⟨rfl, hS'⟩
  have hS := hS.call (L := rrH xr rb ((rbInt s).2)) hS'
  have ht := Nat.le_trans (rbInt_t (rbInt s).2) ht
  repeat (first | refine SemW.run tblOk ?_ | refine jA (by omega) ?_ | refine jB (by omega) ?_ | refine jC (by omega) ?_ | refine jD (by omega) ?_ | refine jE rfl ?_ | refine jF (by omega) ?_ | (refine jG ?_; first | with_reducible (first | refine jH ?_ | refine jI ?_ | refine jJ ?_ | refine jK ?_ | refine jL ?_) | refine jM (by omega) ?_ | refine jN (by omega) ?_ | with_reducible refine jM rfl ?_ | refine jM (by assumption) ?_ | refine jN (by assumption) ?_ | refine jM (by decide) ?_ | refine jN (by decide) ?_) | refine jF (ptr_ok tblOk rfl rfl) ?_ | refine jO (fun _ => by kernel_rfl) ?_ | refine jF (by decide) ?_ | refine hS.ld rfl ?_ | refine hS.ldn rfl ?_ | (refine hS.st rfl rfl ?_; intro _ hS))
  refine Cl.mono (rrint_spec (s := (rbInt (rbInt s).2).2) (hS.part (L := rrH xr rb ((rbInt (rbInt s).2).2))) (by omega)) ?_
  rintro _ w8 ⟨rfl, hS'⟩
  have hS := hS.call (L := rrH xr rb ((rbInt (rbInt s).2).2)) hS'
  have ht := Nat.le_trans (rbInt_t (rbInt (rbInt s).2).2) ht
  repeat (first | refine SemW.run tblOk ?_ | refine jA (by omega) ?_ | refine jB (by omega) ?_ | refine jC (by omega) ?_ | refine jD (by omega) ?_ | refine jE rfl ?_ | refine jF (by omega) ?_ | (refine jG ?_; first | with_reducible (first | refine jH ?_ | refine jI ?_ | refine jJ ?_ | refine jK ?_ | refine jL ?_) | refine jM (by omega) ?_ | refine jN (by omega) ?_ | with_reducible refine jM rfl ?_ | refine jM (by assumption) ?_ | refine jN (by assumption) ?_ | refine jM (by decide) ?_ | refine jN (by decide) ?_) | refine jF (ptr_ok tblOk rfl rfl) ?_ | refine jO (fun _ => by kernel_rfl) ?_ | refine jF (by decide) ?_ | refine hS.ld rfl ?_ | refine hS.ldn rfl ?_ | (refine hS.st rfl rfl ?_; intro _ hS))
  refine hS.al ?_
  intro b5 w2 _ hS
  repeat (first | refine SemW.run tblOk ?_ | refine jA (by omega) ?_ | refine jB (by omega) ?_ | refine jC (by omega) ?_ | refine jD (by omega) ?_ | refine jE rfl ?_ | refine jF (by omega) ?_ | (refine jG ?_; first | with_reducible (first | refine jH ?_ | refine jI ?_ | refine jJ ?_ | refine jK ?_ | refine jL ?_) | refine jM (by omega) ?_ | refine jN (by omega) ?_ | with_reducible refine jM rfl ?_ | refine jM (by assumption) ?_ | refine jN (by assumption) ?_ | refine jM (by decide) ?_ | refine jN (by decide) ?_) | refine jF (ptr_ok tblOk rfl rfl) ?_ | refine jO (fun _ => by kernel_rfl) ?_ | refine jF (by decide) ?_ | refine hS.ld rfl ?_ | refine hS.ldn rfl ?_ | (refine hS.st rfl rfl ?_; intro _ hS))
  have hX : rFl s id = (⟨id, (rbInt s).1, (rbInt (rbInt s).2).1, (rbInt (rbInt (rbInt s).2).2).1, (wInts 4 (rbInt (rbInt (rbInt s).2).2).2).1.getD 0 0, (wInts 4 (rbInt (rbInt (rbInt s).2).2).2).1.getD 1 0, (wInts 4 (rbInt (rbInt (rbInt s).2).2).2).1.getD 2 0, (wInts 4 (rbInt (rbInt (rbInt s).2).2).2).1.getD 3 0⟩, (wInts 4 (rbInt (rbInt (rbInt s).2).2).2).2) := rfl
  rw [hX]
  clear hX
  generalize (rbInt s).1 = i0 at hS ⊢
  generalize (rbInt (rbInt s).2).1 = i1 at hS ⊢
  generalize (rbInt (rbInt (rbInt s).2).2).1 = i2 at hS ⊢
  generalize (rbInt (rbInt (rbInt s).2).2).2 = s4 at hS ht ⊢
  refine SemW.loop (fun z : LI => [(0, ptr xr), (4, ptr b4), (5, ptr b5), (15, .int .i64 z.k)])
    (fun z w' => ((z.l.length = z.k ∧ z.k ≤ 4) ∧ (z.l ++ (wInts (4 - z.l.length) z.s).1, (wInts (4 - z.l.length) z.s).2) = wInts 4 s4 ∧ z.s.t.length ≤ 1000000000) ∧ St w [xr, rb] ((b5, .cells ⟨flC ⟨id, i0, i1, i2, z.l.getD 0 0, z.l.getD 1 0, z.l.getD 2 0, z.l.getD 3 0⟩⟩ T_api_Flight (0, 0)) :: (b4, .cells ⟨flC ⟨0, 0, 0, 0, 0, 0, 0, 0⟩⟩ T_api_Flight (0, 0)) :: rrH xr rb z.s) w') (fun z => 4 - z.k) ⟨0, [], s4⟩
    ⟨rfl, rfl, rfl, rfl, trivial⟩ ⟨⟨⟨rfl, Nat.zero_le _⟩, rfl, by simp only; omega⟩, hS⟩ ?_
  clear hS hS'
  rintro ⟨j, x, s5⟩ w7 ⟨⟨⟨hxk, hk4⟩, hx, ht⟩, hS⟩
  simp only at hxk hk4 hx ht hS ⊢
  have hS : St w [xr, rb] ((b5, .cells ⟨[.int .i64 id, .int .i64 i0, .int .i64 i1, .int .i64 i2, .int .i64 (x.getD 0 0), .int .i64 (x.getD 1 0), .int .i64 (x.getD 2 0), .int .i64 (x.getD 3 0)]⟩ T_api_Flight (0, 0)) :: (b4, .cells ⟨[.int .i64 0, .int .i64 0, .int .i64 0, .int .i64 0, .int .i64 0, .int .i64 0, .int .i64 0, .int .i64 0]⟩ T_api_Flight (0, 0)) :: rrH xr rb s5) _ := hS
  by_cases hj : j < 4
  · have hx2 := wInts_step (n := 4) (by omega) hx
    have ht3 := rbInt_t s5
    repeat (first | refine SemW.run tblOk ?_ | refine jA (by omega) ?_ | refine jB (by omega) ?_ | refine jC (by omega) ?_ | refine jD (by omega) ?_ | refine jE rfl ?_ | refine jF (by omega) ?_ | (refine jG ?_; first | with_reducible (first | refine jH ?_ | refine jI ?_ | refine jJ ?_ | refine jK ?_ | refine jL ?_) | refine jM (by omega) ?_ | refine jN (by omega) ?_ | with_reducible refine jM rfl ?_ | refine jM (by assumption) ?_ | refine jN (by assumption) ?_ | refine jM (by decide) ?_ | refine jN (by decide) ?_) | refine jF (ptr_ok tblOk rfl rfl) ?_ | refine jO (fun _ => by kernel_rfl) ?_ | refine jF (by decide) ?_ | refine hS.ld rfl ?_ | refine hS.ldn rfl ?_ | (refine hS.st rfl rfl ?_; intro _ hS))
    refine Cl.mono (rrint_spec (s := s5) (hS.part (L := rrH xr rb s5)) (by omega)) ?_
    rintro _ w8 ⟨rfl, hS'⟩
    have hS := hS.call (L := rrH xr rb s5) hS'
    generalize rbInt s5 = y at hS hx2 ht3 ⊢
    obtain ⟨v, s6⟩ := y
    simp only at hS hx2 ht3 ⊢
    rcases (show j = 0 ∨ j = 1 ∨ j = 2 ∨ j = 3 by omega) with rfl | rfl | rfl | rfl
    · obtain rfl := List.length_eq_zero_iff.1 hxk
      repeat (first | refine SemW.run tblOk ?_ | refine jA (by omega) ?_ | refine jB (by omega) ?_ | refine jC (by omega) ?_ | refine jD (by omega) ?_ | refine jE rfl ?_ | refine jF (by omega) ?_ | (refine jG ?_; first | with_reducible (first | refine jH ?_ | refine jI ?_ | refine jJ ?_ | refine jK ?_ | refine jL ?_) | refine jM (by omega) ?_ | refine jN (by omega) ?_ | with_reducible refine jM rfl ?_ | refine jM (by assumption) ?_ | refine jN (by assumption) ?_ | refine jM (by decide) ?_ | refine jN (by decide) ?_) | refine jF (ptr_ok tblOk rfl rfl) ?_ | refine jO (fun _ => by kernel_rfl) ?_ | refine jF (by decide) ?_ | refine hS.ld rfl ?_ | refine hS.ldn rfl ?_ | (refine hS.st rfl rfl ?_; intro _ hS))
      exact ⟨⟨1, [v], s6⟩, ⟨rfl, rfl, rfl, rfl, trivial⟩, ⟨⟨⟨rfl, by simp only; omega⟩, hx2, by simp only; omega⟩, hS⟩, by simp only; omega⟩
    · obtain ⟨y0, rfl⟩ : ∃ a, x = [a] := ⟨_, lst1 0 hxk⟩
      repeat (first | refine SemW.run tblOk ?_ | refine jA (by omega) ?_ | refine jB (by omega) ?_ | refine jC (by omega) ?_ | refine jD (by omega) ?_ | refine jE rfl ?_ | refine jF (by omega) ?_ | (refine jG ?_; first | with_reducible (first | refine jH ?_ | refine jI ?_ | refine jJ ?_ | refine jK ?_ | refine jL ?_) | refine jM (by omega) ?_ | refine jN (by omega) ?_ | with_reducible refine jM rfl ?_ | refine jM (by assumption) ?_ | refine jN (by assumption) ?_ | refine jM (by decide) ?_ | refine jN (by decide) ?_) | refine jF (ptr_ok tblOk rfl rfl) ?_ | refine jO (fun _ => by kernel_rfl) ?_ | refine jF (by decide) ?_ | refine hS.ld rfl ?_ | refine hS.ldn rfl ?_ | (refine hS.st rfl rfl ?_; intro _ hS))
      exact ⟨⟨2, [y0, v], s6⟩, ⟨rfl, rfl, rfl, rfl, trivial⟩, ⟨⟨⟨rfl, by simp only; omega⟩, hx2, by simp only; omega⟩, hS⟩, by simp only; omega⟩
    · obtain ⟨y0, y1, rfl⟩ : ∃ a b, x = [a, b] := ⟨_, _, lst2 0 hxk⟩
      repeat (first | refine SemW.run tblOk ?_ | refine jA (by omega) ?_ | refine jB (by omega) ?_ | refine jC (by omega) ?_ | refine jD (by omega) ?_ | refine jE rfl ?_ | refine jF (by omega) ?_ | (refine jG ?_; first | with_reducible (first | refine jH ?_ | refine jI ?_ | refine jJ ?_ | refine jK ?_ | refine jL ?_) | refine jM (by omega) ?_ | refine jN (by omega) ?_ | with_reducible refine jM rfl ?_ | refine jM (by assumption) ?_ | refine jN (by assumption) ?_ | refine jM (by decide) ?_ | refine jN (by decide) ?_) | refine jF (ptr_ok tblOk rfl rfl) ?_ | refine jO (fun _ => by kernel_rfl) ?_ | refine jF (by decide) ?_ | refine hS.ld rfl ?_ | refine hS.ldn rfl ?_ | (refine hS.st rfl rfl ?_; intro _ hS))
      exact ⟨⟨3, [y0, y1, v], s6⟩, ⟨rfl, rfl, rfl, rfl, trivial⟩, ⟨⟨⟨rfl, by simp only; omega⟩, hx2, by simp only; omega⟩, hS⟩, by simp only; omega⟩
    · obtain ⟨y0, y1, y2, rfl⟩ : ∃ a b c, x = [a, b, c] := ⟨_, _, _, lst3 0 hxk⟩
      repeat (first | refine SemW.run tblOk ?_ | refine jA (by omega) ?_ | refine jB (by omega) ?_ | refine jC (by omega) ?_ | refine jD (by omega) ?_ | refine jE rfl ?_ | refine jF (by omega) ?_ | (refine jG ?_; first | with_reducible (first | refine jH ?_ | refine jI ?_ | refine jJ ?_ | refine jK ?_ | refine jL ?_) | refine jM (by omega) ?_ | refine jN (by omega) ?_ | with_reducible refine jM rfl ?_ | refine jM (by assumption) ?_ | refine jN (by assumption) ?_ | refine jM (by decide) ?_ | refine jN (by decide) ?_) | refine jF (ptr_ok tblOk rfl rfl) ?_ | refine jO (fun _ => by kernel_rfl) ?_ | refine jF (by decide) ?_ | refine hS.ld rfl ?_ | refine hS.ldn rfl ?_ | (refine hS.st rfl rfl ?_; intro _ hS))
      exact ⟨⟨4, [y0, y1, y2, v], s6⟩, ⟨rfl, rfl, rfl, rfl, trivial⟩, ⟨⟨⟨rfl, by simp only; omega⟩, hx2, by simp only; omega⟩, hS⟩, by simp only; omega⟩
  · have hk4 : j = 4 := by omega
    rw [show 4 - x.length = 0 by omega] at hx
    have hx : (x, s5) = wInts 4 s4 := by simpa [wInts] using hx
    rw [← hx]
    simp only
    repeat (first | refine SemW.run tblOk ?_ | refine jA (by omega) ?_ | refine jB (by omega) ?_ | refine jC (by omega) ?_ | refine jD (by omega) ?_ | refine jE rfl ?_ | refine jF (by omega) ?_ | (refine jG ?_; first | with_reducible (first | refine jH ?_ | refine jI ?_ | refine jJ ?_ | refine jK ?_ | refine jL ?_) | refine jM (by omega) ?_ | refine jN (by omega) ?_ | with_reducible refine jM rfl ?_ | refine jM (by assumption) ?_ | refine jN (by assumption) ?_ | refine jM (by decide) ?_ | refine jN (by decide) ?_) | refine jF (ptr_ok tblOk rfl rfl) ?_ | refine jO (fun _ => by kernel_rfl) ?_ | refine jF (by decide) ?_ | refine hS.ld rfl ?_ | refine hS.ldn rfl ?_ | (refine hS.st rfl rfl ?_; intro _ hS))
    exact ⟨rfl, hS.sub (by simp)⟩
end Go.Proofs.YthpmmfapolcaiaaGreatDoor

/- Package rows: equip of a reader. -/
namespace Go.Proofs.YthpmmfapolcaiaaGreatDoor
open Go Go.Eng Go.Proofs
structure RWQ where
  i : Nat
  s : RB
  l : List RowM
  a : Option Addr
  c : Nat
/-- What reading an equipment answers. -/
def EqPost (y : RB × List RowM) (id : Int) (xr rb : Nat) (v : Value) (w w' : World) : Prop :=
  ∃ a cap L, v = .agg ⟨[.int .i64 id, .slice a y.2.length cap]⟩ ∧ Vec T_api_Row 5 a y.2.length cap (y.2.flatMap rowC) L ∧ St w [xr, rb] (rrH xr rb y.1 ++ L) w'
set_option maxRecDepth 4000 in
set_option maxHeartbeats 8000000 in
theorem rrequip_spec {w : World} {xr rb : Nat} {s : RB} {id : Int} (hh : Holds (rrH xr rb s) w) (ht : s.t.length ≤ 1000000000) :
    Cl Tryz.prog f_rows_reader_equip [ptr xr, .int .i64 id] w fun v w' => EqPost (rRowsT s) id xr rb v w w' := by
  have hS : St w [xr, rb] (rrH xr rb s) w := St.enter hh
  unfold rRowsT
  refine en_rows_reader_equip rfl ?_
  repeat (first | refine SemW.run tblOk ?_ | refine jA (by omega) ?_ | refine jB (by omega) ?_ | refine jC (by omega) ?_ | refine jD (by omega) ?_ | refine jE rfl ?_ | refine jF (by omega) ?_ | (refine jG ?_; first | with_reducible (first | refine jH ?_ | refine jI ?_ | refine jJ ?_ | refine jK ?_ | refine jL ?_) | refine jM (by omega) ?_ | refine jN (by omega) ?_ | with_reducible refine jM rfl ?_ | refine jM (by assumption) ?_ | refine jN (by assumption) ?_ | refine jM (by decide) ?_ | refine jN (by decide) ?_) | refine jF (ptr_ok tblOk rfl rfl) ?_ | refine jO (fun _ => by kernel_rfl) ?_ | refine jF (by decide) ?_ | refine hS.ld rfl ?_ | refine hS.ldn rfl ?_ | (refine hS.st rfl rfl ?_; intro _ hS))
  refine hS.al ?_
  intro b4 w1 _ hS
  repeat (first | refine SemW.run tblOk ?_ | refine jA (by omega) ?_ | refine jB (by omega) ?_ | refine jC (by omega) ?_ | refine jD (by omega) ?_ | refine jE rfl ?_ | refine jF (by omega) ?_ | (refine jG ?_; first | with_reducible (first | refine jH ?_ | refine jI ?_ | refine jJ ?_ | refine jK ?_ | refine jL ?_) | refine jM (by omega) ?_ | refine jN (by omega) ?_ | with_reducible refine jM rfl ?_ | refine jM (by assumption) ?_ | refine jN (by assumption) ?_ | refine jM (by decide) ?_ | refine jN (by decide) ?_) | refine jF (ptr_ok tblOk rfl rfl) ?_ | refine jO (fun _ => by kernel_rfl) ?_ | refine jF (by decide) ?_ | refine hS.ld rfl ?_ | refine hS.ldn rfl ?_ | (refine hS.st rfl rfl ?_; intro _ hS))
  refine hS.al ?_
  intro b5 w2 _ hS
  repeat (first | refine SemW.run tblOk ?_ | refine jA (by omega) ?_ | refine jB (by omega) ?_ | refine jC (by omega) ?_ | refine jD (by omega) ?_ | refine jE rfl ?_ | refine jF (by omega) ?_ | (refine jG ?_; first | with_reducible (first | refine jH ?_ | refine jI ?_ | refine jJ ?_ | refine jK ?_ | refine jL ?_) | refine jM (by omega) ?_ | refine jN (by omega) ?_ | with_reducible refine jM rfl ?_ | refine jM (by assumption) ?_ | refine jN (by assumption) ?_ | refine jM (by decide) ?_ | refine jN (by decide) ?_) | refine jF (ptr_ok tblOk rfl rfl) ?_ | refine jO (fun _ => by kernel_rfl) ?_ | refine jF (by decide) ?_ | refine hS.ld rfl ?_ | refine hS.ldn rfl ?_ | (refine hS.st rfl rfl ?_; intro _ hS))
  refine Cl.mono (rrnum_spec (s := s) (hS.part (L := rrH xr rb s)) (by omega)) ?_
  rintro _ w3 ⟨rfl, hS'⟩
  have hS := hS.call (L := rrH xr rb s) hS'
  have ht1 := Nat.le_trans (rbNum_t s) ht
  have hlt : (rbNum s).1 < 18446744073709551616 := numO_lt s.t
  generalize rbNum s = y at hS ht1 hlt ⊢
  obtain ⟨n, s1⟩ := y
  simp only at hS ht1 hlt ⊢
  have hS : St w [xr, rb] ((b5, .cells ⟨[.int .i64 id, .slice none 0 0]⟩ T_api_Equip (0, 0)) :: (b4, .cells ⟨[.int .i64 0, .slice none 0 0]⟩ T_api_Equip (0, 0)) :: rrH xr rb s1) _ := hS
  repeat (first | refine SemW.run tblOk ?_ | refine jA (by omega) ?_ | refine jB (by omega) ?_ | refine jC (by omega) ?_ | refine jD (by omega) ?_ | refine jE rfl ?_ | refine jF (by omega) ?_ | (refine jG ?_; first | with_reducible (first | refine jH ?_ | refine jI ?_ | refine jJ ?_ | refine jK ?_ | refine jL ?_) | refine jM (by omega) ?_ | refine jN (by omega) ?_ | with_reducible refine jM rfl ?_ | refine jM (by assumption) ?_ | refine jN (by assumption) ?_ | refine jM (by decide) ?_ | refine jN (by decide) ?_) | refine jF (ptr_ok tblOk rfl rfl) ?_ | refine jO (fun _ => by kernel_rfl) ?_ | refine jF (by decide) ?_ | refine hS.ld rfl ?_ | refine hS.ldn rfl ?_ | (refine hS.st rfl rfl ?_; intro _ hS))
  refine SemW.loop (fun z : RWQ => [(0, ptr xr), (4, ptr b4), (5, ptr b5), (6, .int .u64 ((n - z.i : Nat) : Int))])
    (fun z w' => (z.i ≤ n ∧ rRows (n - z.i) (z.s, z.l) = rRows n (s1, []) ∧ z.s.t.length ≤ 1000000000 ∧ z.l.length + z.s.t.length ≤ 1000000000 + bitW z.s.bad) ∧ ∃ L, Vec T_api_Row 5 z.a z.l.length z.c (z.l.flatMap rowC) L ∧ St w [xr, rb] ((b5, .cells ⟨[.int .i64 id, .slice z.a z.l.length z.c]⟩ T_api_Equip (0, 0)) :: (b4, .cells ⟨[.int .i64 0, .slice none 0 0]⟩ T_api_Equip (0, 0)) :: (rrH xr rb z.s ++ L)) w') (fun z => n - z.i) ⟨0, s1, [], none, 0⟩
    ⟨rfl, rfl, rfl, rfl, trivial⟩ ⟨⟨Nat.zero_le _, rfl, ht1, by simp only [List.length_nil]; omega⟩, [], Vec.nil, by rw [List.append_nil]; exact hS⟩ ?_
  clear hS hS'
  generalize hX : rRows n (s1, []) = X
  rintro ⟨i, ⟨t2, bd⟩, l, a, c⟩ w5 ⟨⟨hi, hx, htl, hsz⟩, L, hv, hS⟩
  simp only at hi hx htl hsz hv hS ⊢
  have hgo : i < n ∧ bd = false ∨ (⟨t2, bd⟩, l) = X ∧ (i = n ∨ bd = true) := by
    by_cases hin : i < n
    · cases bd with
      | true => rw [rRows_halt _ _ _ rfl] at hx; exact .inr ⟨hx, .inr rfl⟩
      | false => exact .inl ⟨hin, rfl⟩
    · rw [show n - i = 0 by omega] at hx; exact .inr ⟨hx, .inl (by omega)⟩
  rcases hgo with ⟨hin, rfl⟩ | ⟨hX2, hend⟩
  · have hb1 : bitW false = 0 := rfl
    rw [show n - i = (n - (i + 1)) + 1 by omega, rRows_go _ _ _ rfl] at hx
    have hd := rRow_dec (s := ⟨t2, false⟩) rfl
    have hM : rRow ⟨t2, false⟩ = (⟨(rbInt ⟨t2, false⟩).1, (rbInt (rbInt ⟨t2, false⟩).2).1, (rbInt (rbInt (rbInt ⟨t2, false⟩).2).2).1, (rMarks 1 (rbInt (rbInt (rbInt ⟨t2, false⟩).2).2).2).1.getD 0 false, (wText (rMarks 1 (rbInt (rbInt (rbInt ⟨t2, false⟩).2).2).2).2).1⟩, (wText (rMarks 1 (rbInt (rbInt (rbInt ⟨t2, false⟩).2).2).2).2).2) := rfl
    have ht : (⟨t2, false⟩ : RB).t.length ≤ 1000000000 := htl
    repeat (first | refine SemW.run tblOk ?_ | refine jA (by omega) ?_ | refine jB (by omega) ?_ | refine jC (by omega) ?_ | refine jD (by omega) ?_ | refine jE rfl ?_ | refine jF (by omega) ?_ | (refine jG ?_; first | with_reducible (first | refine jH ?_ | refine jI ?_ | refine jJ ?_ | refine jK ?_ | refine jL ?_) | refine jM (by omega) ?_ | refine jN (by omega) ?_ | with_reducible refine jM rfl ?_ | refine jM (by assumption) ?_ | refine jN (by assumption) ?_ | refine jM (by decide) ?_ | refine jN (by decide) ?_) | refine jF (ptr_ok tblOk rfl rfl) ?_ | refine jO (fun _ => by kernel_rfl) ?_ | refine jF (by decide) ?_ | refine hS.ld rfl ?_ | refine hS.ldn rfl ?_ | (refine hS.st rfl rfl ?_; intro _ hS))
    refine Cl.mono (rrint_spec (s := ⟨t2, false⟩) (hS.part (L := rrH xr rb (⟨t2, false⟩))) (by omega)) ?_
    rintro _ w8 ⟨rfl, hS'⟩
    have hS := hS.call (L := rrH xr rb (⟨t2, false⟩)) hS'
    have ht := Nat.le_trans (rbInt_t ⟨t2, false⟩) ht
    generalize rbInt ⟨t2, false⟩ = y at hS ht hM ⊢
    obtain ⟨z1, s3⟩ := y
    simp only at hS ht hM ⊢
    repeat (first | refine SemW.run tblOk ?_ | refine jA (by omega) ?_ | refine jB (by omega) ?_ | refine jC (by omega) ?_ | refine jD (by omega) ?_ | refine jE rfl ?_ | refine jF (by omega) ?_ | (refine jG ?_; first | with_reducible (first | refine jH ?_ | refine jI ?_ | refine jJ ?_ | refine jK ?_ | refine jL ?_) | refine jM (by omega) ?_ | refine jN (by omega) ?_ | with_reducible refine jM rfl ?_ | refine jM (by assumption) ?_ | refine jN (by assumption) ?_ | refine jM (by decide) ?_ | refine jN (by decide) ?_) | refine jF (ptr_ok tblOk rfl rfl) ?_ | refine jO (fun _ => by kernel_rfl) ?_ | refine jF (by decide) ?_ | refine hS.ld rfl ?_ | refine hS.ldn rfl ?_ | (refine hS.st rfl rfl ?_; intro _ hS))
    refine Cl.mono (rrint_spec (s := s3) (hS.part (L := rrH xr rb (s3))) (by omega)) ?_
    rintro _ w8 ⟨rfl, hS'⟩
    have hS := hS.call (L := rrH xr rb (s3)) hS'
    have ht := Nat.le_trans (rbInt_t s3) ht
    generalize rbInt s3 = y at hS ht hM ⊢
    obtain ⟨z2, s4⟩ := y
    simp only at hS ht hM ⊢
    repeat (first | refine SemW.run tblOk ?_ | refine jA (by omega) ?_ | refine jB (by omega) ?_ | refine jC (by omega) ?_ | refine jD (by omega) ?_ | refine jE rfl ?_ | refine jF (by omega) ?_ | (refine jG ?_; first | with_reducible (first | refine jH ?_ | refine jI ?_ | refine jJ ?_ | refine jK ?_ | refine jL ?_) | refine jM (by omega) ?_ | refine jN (by omega) ?_ | with_reducible refine jM rfl ?_ | refine jM (by assumption) ?_ | refine jN (by assumption) ?_ | refine jM (by decide) ?_ | refine jN (by decide) ?_) | refine jF (ptr_ok tblOk rfl rfl) ?_ | refine jO (fun _ => by kernel_rfl) ?_ | refine jF (by decide) ?_ | refine hS.ld rfl ?_ | refine hS.ldn rfl ?_ | (refine hS.st rfl rfl ?_; intro _ hS))
    refine Cl.mono (rrint_spec (s := s4) (hS.part (L := rrH xr rb (s4))) (by omega)) ?_
    rintro _ w8 ⟨rfl, hS'⟩
    have hS := hS.call (L := rrH xr rb (s4)) hS'
    have ht := Nat.le_trans (rbInt_t s4) ht
    generalize rbInt s4 = y at hS ht hM ⊢
    obtain ⟨z3, s5⟩ := y
    simp only at hS ht hM ⊢
    repeat (first | refine SemW.run tblOk ?_ | refine jA (by omega) ?_ | refine jB (by omega) ?_ | refine jC (by omega) ?_ | refine jD (by omega) ?_ | refine jE rfl ?_ | refine jF (by omega) ?_ | (refine jG ?_; first | with_reducible (first | refine jH ?_ | refine jI ?_ | refine jJ ?_ | refine jK ?_ | refine jL ?_) | refine jM (by omega) ?_ | refine jN (by omega) ?_ | with_reducible refine jM rfl ?_ | refine jM (by assumption) ?_ | refine jN (by assumption) ?_ | refine jM (by decide) ?_ | refine jN (by decide) ?_) | refine jF (ptr_ok tblOk rfl rfl) ?_ | refine jO (fun _ => by kernel_rfl) ?_ | refine jF (by decide) ?_ | refine hS.ld rfl ?_ | refine hS.ldn rfl ?_ | (refine hS.st rfl rfl ?_; intro _ hS))
    refine hS.al ?_
    intro b7 w6 _ hS
    repeat (first | refine SemW.run tblOk ?_ | refine jA (by omega) ?_ | refine jB (by omega) ?_ | refine jC (by omega) ?_ | refine jD (by omega) ?_ | refine jE rfl ?_ | refine jF (by omega) ?_ | (refine jG ?_; first | with_reducible (first | refine jH ?_ | refine jI ?_ | refine jJ ?_ | refine jK ?_ | refine jL ?_) | refine jM (by omega) ?_ | refine jN (by omega) ?_ | with_reducible refine jM rfl ?_ | refine jM (by assumption) ?_ | refine jN (by assumption) ?_ | refine jM (by decide) ?_ | refine jN (by decide) ?_) | refine jF (ptr_ok tblOk rfl rfl) ?_ | refine jO (fun _ => by kernel_rfl) ?_ | refine jF (by decide) ?_ | refine hS.ld rfl ?_ | refine hS.ldn rfl ?_ | (refine hS.st rfl rfl ?_; intro _ hS))
    refine Cl.mono (rrmarks_spec 1 (by decide) (hS.part (L := rrH xr rb s5)) (by omega)) ?_
    rintro _ w8 ⟨aM, cM, LM, rfl, hvm, hS'⟩
    have hS := hS.call (L := rrH xr rb s5) hS'
    have ht := Nat.le_trans (rMarks_t 1 s5) ht
    have hms := lst1 false (show (rMarks 1 s5).1.length = 1 from bitsN_len 1 _)
    generalize rMarks 1 s5 = y at hS ht hM hvm hms ⊢
    obtain ⟨ms, s6⟩ := y
    simp only at hS ht hM hvm hms ⊢
    generalize ms.getD 0 false = m at hM hms
    subst hms
    rcases hvm.inv with ⟨-, h0, -⟩ | ⟨g, l', rfl, hxx, hl', hnc, rfl⟩
    · omega
    have hS : St w [xr, rb] ((b7, .cells ⟨[.int .i64 z1, .int .i64 z2, .int .i64 z3, .bool false, Str []]⟩ T_api_Row (0, 0)) :: (b5, .cells ⟨[.int .i64 id, .slice a l.length c]⟩ T_api_Equip (0, 0)) :: (b4, .cells ⟨[.int .i64 0, .slice none 0 0]⟩ T_api_Equip (0, 0)) :: (rrH xr rb s6 ++ ((g, .cells ⟨.bool m :: l'⟩ T_bool (0, 0)) :: L))) w8 := hS
    repeat (first | refine SemW.run tblOk ?_ | refine jA (by omega) ?_ | refine jB (by omega) ?_ | refine jC (by omega) ?_ | refine jD (by omega) ?_ | refine jE rfl ?_ | refine jF (by omega) ?_ | (refine jG ?_; first | with_reducible (first | refine jH ?_ | refine jI ?_ | refine jJ ?_ | refine jK ?_ | refine jL ?_) | refine jM (by omega) ?_ | refine jN (by omega) ?_ | with_reducible refine jM rfl ?_ | refine jM (by assumption) ?_ | refine jN (by assumption) ?_ | refine jM (by decide) ?_ | refine jN (by decide) ?_) | refine jF (ptr_ok tblOk rfl rfl) ?_ | refine jO (fun _ => by kernel_rfl) ?_ | refine jF (by decide) ?_ | refine hS.ld rfl ?_ | refine hS.ldn rfl ?_ | (refine hS.st rfl rfl ?_; intro _ hS))
    refine Cl.mono (rrtext_spec (s := s6) (hS.part (L := rrH xr rb s6)) (by omega)) ?_
    rintro _ w9 ⟨rfl, hS'⟩
    have hS := hS.call (L := rrH xr rb s6) hS'
    have ht := Nat.le_trans (wText_tlen s6) ht
    generalize wText s6 = y at hS ht hM ⊢
    obtain ⟨x, s7⟩ := y
    simp only at hS ht hM ⊢
    repeat (first | refine SemW.run tblOk ?_ | refine jA (by omega) ?_ | refine jB (by omega) ?_ | refine jC (by omega) ?_ | refine jD (by omega) ?_ | refine jE rfl ?_ | refine jF (by omega) ?_ | (refine jG ?_; first | with_reducible (first | refine jH ?_ | refine jI ?_ | refine jJ ?_ | refine jK ?_ | refine jL ?_) | refine jM (by omega) ?_ | refine jN (by omega) ?_ | with_reducible refine jM rfl ?_ | refine jM (by assumption) ?_ | refine jN (by assumption) ?_ | refine jM (by decide) ?_ | refine jN (by decide) ?_) | refine jF (ptr_ok tblOk rfl rfl) ?_ | refine jO (fun _ => by kernel_rfl) ?_ | refine jF (by decide) ?_ | refine hS.ld rfl ?_ | refine hS.ldn rfl ?_ | (refine hS.st rfl rfl ?_; intro _ hS))
    refine hS.al ?_
    intro r w11 _ hS
    have hS : St w [xr, rb] ((r, .cells ⟨rowC ⟨z1, z2, z3, m, x⟩⟩ T_api_Row (0, 0)) :: (b7, .cells ⟨rowC ⟨z1, z2, z3, m, x⟩⟩ T_api_Row (0, 0)) :: (b5, .cells ⟨[.int .i64 id, .slice a l.length c]⟩ T_api_Equip (0, 0)) :: (b4, .cells ⟨[.int .i64 0, .slice none 0 0]⟩ T_api_Equip (0, 0)) :: (rrH xr rb s7 ++ ((g, .cells ⟨.bool m :: l'⟩ T_bool (0, 0)) :: L))) w11 := hS
    rw [hM] at hd hx
    generalize (⟨z1, z2, z3, m, x⟩ : RowM) = row at hS hd hx
    simp only at hd hx
    repeat (first | refine SemW.run tblOk ?_ | refine jA (by omega) ?_ | refine jB (by omega) ?_ | refine jC (by omega) ?_ | refine jD (by omega) ?_ | refine jE rfl ?_ | refine jF (by omega) ?_ | (refine jG ?_; first | with_reducible (first | refine jH ?_ | refine jI ?_ | refine jJ ?_ | refine jK ?_ | refine jL ?_) | refine jM (by omega) ?_ | refine jN (by omega) ?_ | with_reducible refine jM rfl ?_ | refine jM (by assumption) ?_ | refine jN (by assumption) ?_ | refine jM (by decide) ?_ | refine jN (by decide) ?_) | refine jF (ptr_ok tblOk rfl rfl) ?_ | refine jO (fun _ => by kernel_rfl) ?_ | refine jF (by decide) ?_ | refine hS.ld rfl ?_ | refine hS.ldn rfl ?_ | (refine hS.st rfl rfl ?_; intro _ hS))
    refine St.app (sz := 5) (m := 1) tblOk rfl rfl rfl rfl hS hv (news := rowC row) rfl (by have := hS.arr (b := r) (T' := []) (by simp); exact this) rfl (by show (_ + _) * 48 ≤ _; omega) (by omega) ?_
    intro a2 c2 L2 w12 hv hS
    have e9 : l.flatMap rowC ++ rowC row = (l ++ [row]).flatMap rowC := by simp
    have e8 : l.length + 1 = (l ++ [row]).length := by simp
    rw [e9, e8] at hv
    rw [e8]
    repeat (first | refine SemW.run tblOk ?_ | refine jA (by omega) ?_ | refine jB (by omega) ?_ | refine jC (by omega) ?_ | refine jD (by omega) ?_ | refine jE rfl ?_ | refine jF (by omega) ?_ | (refine jG ?_; first | with_reducible (first | refine jH ?_ | refine jI ?_ | refine jJ ?_ | refine jK ?_ | refine jL ?_) | refine jM (by omega) ?_ | refine jN (by omega) ?_ | with_reducible refine jM rfl ?_ | refine jM (by assumption) ?_ | refine jN (by assumption) ?_ | refine jM (by decide) ?_ | refine jN (by decide) ?_) | refine jF (ptr_ok tblOk rfl rfl) ?_ | refine jO (fun _ => by kernel_rfl) ?_ | refine jF (by decide) ?_ | refine hS.ld rfl ?_ | refine hS.ldn rfl ?_ | (refine hS.st rfl rfl ?_; intro _ hS))
    exact ⟨⟨i + 1, s7, l ++ [row], a2, c2⟩, ⟨rfl, rfl, rfl, by show _ = Value.int .u64 _; congr 1; simp only; omega, trivial⟩, ⟨⟨by simp only; omega, hx, by simp only; omega, by simp only [List.length_append, List.length_singleton]; omega⟩, L2, hv, hS.sub (List.Sublist.cons _ (List.Sublist.cons _ (List.Sublist.cons_cons _ (List.Sublist.cons_cons _ (List.Sublist.append_left (List.sublist_cons_self _ _) _)))))⟩, by simp only; omega⟩
  · rcases hend with rfl | rfl
    · rw [Nat.sub_self]
      repeat (first | refine SemW.run tblOk ?_ | refine jA (by omega) ?_ | refine jB (by omega) ?_ | refine jC (by omega) ?_ | refine jD (by omega) ?_ | refine jE rfl ?_ | refine jF (by omega) ?_ | (refine jG ?_; first | with_reducible (first | refine jH ?_ | refine jI ?_ | refine jJ ?_ | refine jK ?_ | refine jL ?_) | refine jM (by omega) ?_ | refine jN (by omega) ?_ | with_reducible refine jM rfl ?_ | refine jM (by assumption) ?_ | refine jN (by assumption) ?_ | refine jM (by decide) ?_ | refine jN (by decide) ?_) | refine jF (ptr_ok tblOk rfl rfl) ?_ | refine jO (fun _ => by kernel_rfl) ?_ | refine jF (by decide) ?_ | refine hS.ld rfl ?_ | refine hS.ldn rfl ?_ | (refine hS.st rfl rfl ?_; intro _ hS))
      exact ⟨a, c, L, by rw [← hX2], by rw [← hX2]; exact hv, by rw [← hX2]; exact hS.sub ((List.sublist_cons_self _ _).trans (List.sublist_cons_self _ _))⟩
    · by_cases hin : i < n
      · repeat (first | refine SemW.run tblOk ?_ | refine jA (by omega) ?_ | refine jB (by omega) ?_ | refine jC (by omega) ?_ | refine jD (by omega) ?_ | refine jE rfl ?_ | refine jF (by omega) ?_ | (refine jG ?_; first | with_reducible (first | refine jH ?_ | refine jI ?_ | refine jJ ?_ | refine jK ?_ | refine jL ?_) | refine jM (by omega) ?_ | refine jN (by omega) ?_ | with_reducible refine jM rfl ?_ | refine jM (by assumption) ?_ | refine jN (by assumption) ?_ | refine jM (by decide) ?_ | refine jN (by decide) ?_) | refine jF (ptr_ok tblOk rfl rfl) ?_ | refine jO (fun _ => by kernel_rfl) ?_ | refine jF (by decide) ?_ | refine hS.ld rfl ?_ | refine hS.ldn rfl ?_ | (refine hS.st rfl rfl ?_; intro _ hS))
        exact ⟨a, c, L, by rw [← hX2], by rw [← hX2]; exact hv, by rw [← hX2]; exact hS.sub ((List.sublist_cons_self _ _).trans (List.sublist_cons_self _ _))⟩
      · repeat (first | refine SemW.run tblOk ?_ | refine jA (by omega) ?_ | refine jB (by omega) ?_ | refine jC (by omega) ?_ | refine jD (by omega) ?_ | refine jE rfl ?_ | refine jF (by omega) ?_ | (refine jG ?_; first | with_reducible (first | refine jH ?_ | refine jI ?_ | refine jJ ?_ | refine jK ?_ | refine jL ?_) | refine jM (by omega) ?_ | refine jN (by omega) ?_ | with_reducible refine jM rfl ?_ | refine jM (by assumption) ?_ | refine jN (by assumption) ?_ | refine jM (by decide) ?_ | refine jN (by decide) ?_) | refine jF (ptr_ok tblOk rfl rfl) ?_ | refine jO (fun _ => by kernel_rfl) ?_ | refine jF (by decide) ?_ | refine hS.ld rfl ?_ | refine hS.ldn rfl ?_ | (refine hS.st rfl rfl ?_; intro _ hS))
        exact ⟨a, c, L, by rw [← hX2], by rw [← hX2]; exact hv, by rw [← hX2]; exact hS.sub ((List.sublist_cons_self _ _).trans (List.sublist_cons_self _ _))⟩
end Go.Proofs.YthpmmfapolcaiaaGreatDoor

/- Package rows: pax of a reader. -/
namespace Go.Proofs.YthpmmfapolcaiaaGreatDoor
open Go Go.Eng Go.Proofs
theorem parseO_nil : parseO [] = (0, 0, false) := by decide
/-- A passenger of its numbers, its marks and its seat's text. -/
def rPaxT (id i0 i1 i2 i3 i4 i5 : Int) (m : List Bool) (y : Bytes × RB) : PaxM × RB :=
  (⟨id, i0, i1, m.getD 0 false, m.getD 1 false, m.getD 2 false, m.getD 3 false, i2, i3, i4, i5, (parseO y.1).1, (parseO y.1).2.1⟩, ⟨y.2.t, y.2.bad || (!(parseO y.1).2.2 && decide (y.1 ≠ []))⟩)
def rPaxM (id i0 i1 i2 i3 i4 i5 : Int) (s : RB) : PaxM × RB := rPaxT id i0 i1 i2 i3 i4 i5 (rMarks 4 s).1 (wText (rMarks 4 s).2)
theorem rPax_eq (s : RB) (id : Int) : rPax s id = rPaxM id (rbInt s).1 (rbInt (rbInt s).2).1 (rbInt (rbInt (rbInt s).2).2).1 (rbInt (rbInt (rbInt (rbInt s).2).2).2).1 (rbInt (rbInt (rbInt (rbInt (rbInt s).2).2).2).2).1 (rbInt (rbInt (rbInt (rbInt (rbInt (rbInt s).2).2).2).2).2).1 (rbInt (rbInt (rbInt (rbInt (rbInt (rbInt s).2).2).2).2).2).2 := by
  unfold rPax tk
  rfl
set_option maxRecDepth 4000 in
set_option maxHeartbeats 8000000 in
theorem rrpax_spec {w : World} {xr rb : Nat} {s : RB} {id : Int} (hh : Holds (rrH xr rb s) w) (ht : s.t.length ≤ 1000000000) (hE : ErrVars w) :
    Cl Tryz.prog f_rows_reader_pax [ptr xr, .int .i64 id] w fun v w' => v = .agg ⟨paxC (rPax s id).1⟩ ∧ St w [xr, rb] (rrH xr rb (rPax s id).2) w' := by
  have hS : St w [xr, rb] (rrH xr rb s) w := St.enter hh
  have hap1 := hE.apart (b := xr) (x := ptr rb) (l := [.bool s.bad]) (t := T_rows_reader) (fz := (0, 0)) (hh.own (xr, _) (by simp)) (fun _ _ => nofun)
  have hap2 := hE.apart (b := rb) (x := Str s.t) (l := []) (t := T_pack_Reader) (fz := (0, 0)) (hh.own (rb, _) (by simp)) (fun _ _ => nofun)
  obtain ⟨X, hM⟩ : ∃ X, rPaxM id (rbInt s).1 (rbInt (rbInt s).2).1 (rbInt (rbInt (rbInt s).2).2).1 (rbInt (rbInt (rbInt (rbInt s).2).2).2).1 (rbInt (rbInt (rbInt (rbInt (rbInt s).2).2).2).2).1 (rbInt (rbInt (rbInt (rbInt (rbInt (rbInt s).2).2).2).2).2).1 (rbInt (rbInt (rbInt (rbInt (rbInt (rbInt s).2).2).2).2).2).2 = X := ⟨_, rfl⟩
  rw [rPax_eq, hM]
  refine en_rows_reader_pax rfl ?_
  repeat (first | refine SemW.run tblOk ?_ | refine jA (by omega) ?_ | refine jB (by omega) ?_ | refine jC (by omega) ?_ | refine jD (by omega) ?_ | refine jE rfl ?_ | refine jF (by omega) ?_ | (refine jG ?_; first | with_reducible (first | refine jH ?_ | refine jI ?_ | refine jJ ?_ | refine jK ?_ | refine jL ?_) | refine jM (by omega) ?_ | refine jN (by omega) ?_ | with_reducible refine jM rfl ?_ | refine jM (by assumption) ?_ | refine jN (by assumption) ?_ | refine jM (by decide) ?_ | refine jN (by decide) ?_) | refine jF (ptr_ok tblOk rfl rfl) ?_ | refine jO (fun _ => by kernel_rfl) ?_ | refine jF (by decide) ?_ | refine hS.ld rfl ?_ | refine hS.ldn rfl ?_ | (refine hS.st rfl rfl ?_; intro _ hS))
  refine hS.al ?_
  intro b4 w1 _ hS
  repeat (first | refine SemW.run tblOk ?_ | refine jA (by omega) ?_ | refine jB (by omega) ?_ | refine jC (by omega) ?_ | refine jD (by omega) ?_ | refine jE rfl ?_ | refine jF (by omega) ?_ | (refine jG ?_; first | with_reducible (first | refine jH ?_ | refine jI ?_ | refine jJ ?_ | refine jK ?_ | refine jL ?_) | refine jM (by omega) ?_ | refine jN (by omega) ?_ | with_reducible refine jM rfl ?_ | refine jM (by assumption) ?_ | refine jN (by assumption) ?_ | refine jM (by decide) ?_ | refine jN (by decide) ?_) | refine jF (ptr_ok tblOk rfl rfl) ?_ | refine jO (fun _ => by kernel_rfl) ?_ | refine jF (by decide) ?_ | refine hS.ld rfl ?_ | refine hS.ldn rfl ?_ | (refine hS.st rfl rfl ?_; intro _ hS))
  refine Cl.mono (rrint_spec (s := s) (hS.part (L := rrH xr rb (s))) (by omega)) ?_
  rintro _ w8 ⟨rfl, hS'⟩
  have hS := hS.call (L := rrH xr rb (s)) hS'
  have ht := Nat.le_trans (rbInt_t s) ht
  generalize rbInt s = y at hS ht hM ⊢
  obtain ⟨i0, s1⟩ := y
  simp only at hS ht hM ⊢
  repeat (first | refine SemW.run tblOk ?_ | refine jA (by omega) ?_ | refine jB (by omega) ?_ | refine jC (by omega) ?_ | refine jD (by omega) ?_ | refine jE rfl ?_ | refine jF (by omega) ?_ | (refine jG ?_; first | with_reducible (first | refine jH ?_ | refine jI ?_ | refine jJ ?_ | refine jK ?_ | refine jL ?_) | refine jM (by omega) ?_ | refine jN (by omega) ?_ | with_reducible refine jM rfl ?_ | refine jM (by assumption) ?_ | refine jN (by assumption) ?_ | refine jM (by decide) ?_ | refine jN (by decide) ?_) | refine jF (ptr_ok tblOk rfl rfl) ?_ | refine jO (fun _ => by kernel_rfl) ?_ | refine jF (by decide) ?_ | refine hS.ld rfl ?_ | refine hS.ldn rfl ?_ | (refine hS.st rfl rfl ?_; intro _ hS))
  refine hS.al ?_
  intro b5 w2 _ hS
  repeat (first | refine SemW.run tblOk ?_ | refine jA (by omega) ?_ | refine jB (by omega) ?_ | refine jC (by omega) ?_ | refine jD (by omega) ?_ | refine jE rfl ?_ | refine jF (by omega) ?_ | (refine jG ?_; first | with_reducible (first | refine jH ?_ | refine jI ?_ | refine jJ ?_ | refine jK ?_ | refine jL ?_) | refine jM (by omega) ?_ | refine jN (by omega) ?_ | with_reducible refine jM rfl ?_ | refine jM (by assumption) ?_ | refine jN (by assumption) ?_ | refine jM (by decide) ?_ | refine jN (by decide) ?_) | refine jF (ptr_ok tblOk rfl rfl) ?_ | refine jO (fun _ => by kernel_rfl) ?_ | refine jF (by decide) ?_ | refine hS.ld rfl ?_ | refine hS.ldn rfl ?_ | (refine hS.st rfl rfl ?_; intro _ hS))
  refine Cl.mono (rrint_spec (s := s1) (hS.part (L := rrH xr rb (s1))) (by omega)) ?_
  rintro _ w8 ⟨rfl, hS'⟩
  have hS := hS.call (L := rrH xr rb (s1)) hS'
  have ht := Nat.le_trans (rbInt_t s1) ht
  generalize rbInt s1 = y at hS ht hM ⊢
  obtain ⟨i1, s2⟩ := y
  simp only at hS ht hM ⊢
  repeat (first | refine SemW.run tblOk ?_ | refine jA (by omega) ?_ | refine jB (by omega) ?_ | refine jC (by omega) ?_ | refine jD (by omega) ?_ | refine jE rfl ?_ | refine jF (by omega) ?_ | (refine jG ?_; first | with_reducible (first | refine jH ?_ | refine jI ?_ | refine jJ ?_ | refine jK ?_ | refine jL ?_) | refine jM (by omega) ?_ | refine jN (by omega) ?_ | with_reducible refine jM rfl ?_ | refine jM (by assumption) ?_ | refine jN (by assumption) ?_ | refine jM (by decide) ?_ | refine jN (by decide) ?_) | refine jF (ptr_ok tblOk rfl rfl) ?_ | refine jO (fun _ => by kernel_rfl) ?_ | refine jF (by decide) ?_ | refine hS.ld rfl ?_ | refine hS.ldn rfl ?_ | (refine hS.st rfl rfl ?_; intro _ hS))
  refine Cl.mono (rrint_spec (s := s2) (hS.part (L := rrH xr rb (s2))) (by omega)) ?_
  rintro _ w8 ⟨rfl, hS'⟩
  have hS := hS.call (L := rrH xr rb (s2)) hS'
  have ht := Nat.le_trans (rbInt_t s2) ht
  generalize rbInt s2 = y at hS ht hM ⊢
  obtain ⟨i2, s3⟩ := y
  simp only at hS ht hM ⊢
  repeat (first | refine SemW.run tblOk ?_ | refine jA (by omega) ?_ | refine jB (by omega) ?_ | refine jC (by omega) ?_ | refine jD (by omega) ?_ | refine jE rfl ?_ | refine jF (by omega) ?_ | (refine jG ?_; first | with_reducible (first | refine jH ?_ | refine jI ?_ | refine jJ ?_ | refine jK ?_ | refine jL ?_) | refine jM (by omega) ?_ | refine jN (by omega) ?_ | with_reducible refine jM rfl ?_ | refine jM (by assumption) ?_ | refine jN (by assumption) ?_ | refine jM (by decide) ?_ | refine jN (by decide) ?_) | refine jF (ptr_ok tblOk rfl rfl) ?_ | refine jO (fun _ => by kernel_rfl) ?_ | refine jF (by decide) ?_ | refine hS.ld rfl ?_ | refine hS.ldn rfl ?_ | (refine hS.st rfl rfl ?_; intro _ hS))
  refine Cl.mono (rrint_spec (s := s3) (hS.part (L := rrH xr rb (s3))) (by omega)) ?_
  rintro _ w8 ⟨rfl, hS'⟩
  have hS := hS.call (L := rrH xr rb (s3)) hS'
  have ht := Nat.le_trans (rbInt_t s3) ht
  generalize rbInt s3 = y at hS ht hM ⊢
  obtain ⟨i3, s4⟩ := y
  simp only at hS ht hM ⊢
  repeat (first | refine SemW.run tblOk ?_ | refine jA (by omega) ?_ | refine jB (by omega) ?_ | refine jC (by omega) ?_ | refine jD (by omega) ?_ | refine jE rfl ?_ | refine jF (by omega) ?_ | (refine jG ?_; first | with_reducible (first | refine jH ?_ | refine jI ?_ | refine jJ ?_ | refine jK ?_ | refine jL ?_) | refine jM (by omega) ?_ | refine jN (by omega) ?_ | with_reducible refine jM rfl ?_ | refine jM (by assumption) ?_ | refine jN (by assumption) ?_ | refine jM (by decide) ?_ | refine jN (by decide) ?_) | refine jF (ptr_ok tblOk rfl rfl) ?_ | refine jO (fun _ => by kernel_rfl) ?_ | refine jF (by decide) ?_ | refine hS.ld rfl ?_ | refine hS.ldn rfl ?_ | (refine hS.st rfl rfl ?_; intro _ hS))
  refine Cl.mono (rrint_spec (s := s4) (hS.part (L := rrH xr rb (s4))) (by omega)) ?_
  rintro _ w8 ⟨rfl, hS'⟩
  have hS := hS.call (L := rrH xr rb (s4)) hS'
  have ht := Nat.le_trans (rbInt_t s4) ht
  generalize rbInt s4 = y at hS ht hM ⊢
  obtain ⟨i4, s5⟩ := y
  simp only at hS ht hM ⊢
  repeat (first | refine SemW.run tblOk ?_ | refine jA (by omega) ?_ | refine jB (by omega) ?_ | refine jC (by omega) ?_ | refine jD (by omega) ?_ | refine jE rfl ?_ | refine jF (by omega) ?_ | (refine jG ?_; first | with_reducible (first | refine jH ?_ | refine jI ?_ | refine jJ ?_ | refine jK ?_ | refine jL ?_) | refine jM (by omega) ?_ | refine jN (by omega) ?_ | with_reducible refine jM rfl ?_ | refine jM (by assumption) ?_ | refine jN (by assumption) ?_ | refine jM (by decide) ?_ | refine jN (by decide) ?_) | refine jF (ptr_ok tblOk rfl rfl) ?_ | refine jO (fun _ => by kernel_rfl) ?_ | refine jF (by decide) ?_ | refine hS.ld rfl ?_ | refine hS.ldn rfl ?_ | (refine hS.st rfl rfl ?_; intro _ hS))
  refine Cl.mono (rrint_spec (s := s5) (hS.part (L := rrH xr rb (s5))) (by omega)) ?_
  rintro _ w8 ⟨rfl, hS'⟩
  have hS := hS.call (L := rrH xr rb (s5)) hS'
  have ht := Nat.le_trans (rbInt_t s5) ht
  generalize rbInt s5 = y at hS ht hM ⊢
  obtain ⟨i5, s6⟩ := y
  simp only at hS ht hM ⊢
  repeat (first | refine SemW.run tblOk ?_ | refine jA (by omega) ?_ | refine jB (by omega) ?_ | refine jC (by omega) ?_ | refine jD (by omega) ?_ | refine jE rfl ?_ | refine jF (by omega) ?_ | (refine jG ?_; first | with_reducible (first | refine jH ?_ | refine jI ?_ | refine jJ ?_ | refine jK ?_ | refine jL ?_) | refine jM (by omega) ?_ | refine jN (by omega) ?_ | with_reducible refine jM rfl ?_ | refine jM (by assumption) ?_ | refine jN (by assumption) ?_ | refine jM (by decide) ?_ | refine jN (by decide) ?_) | refine jF (ptr_ok tblOk rfl rfl) ?_ | refine jO (fun _ => by kernel_rfl) ?_ | refine jF (by decide) ?_ | refine hS.ld rfl ?_ | refine hS.ldn rfl ?_ | (refine hS.st rfl rfl ?_; intro _ hS))
  refine Cl.mono (rrmarks_spec 4 (by decide) (hS.part (L := rrH xr rb s6)) (by omega)) ?_
  rintro _ w8 ⟨aM, cM, LM, rfl, hvm, hS'⟩
  have hS := hS.call (L := rrH xr rb s6) hS'
  have ht := Nat.le_trans (rMarks_t 4 s6) ht
  have hms := lst4 false (show (rMarks 4 s6).1.length = 4 from bitsN_len 4 _)
  unfold rPaxM at hM
  generalize rMarks 4 s6 = y at hS ht hM hvm hms ⊢
  obtain ⟨ms, s7⟩ := y
  simp only at hS ht hM hvm hms ⊢
  generalize ms.getD 0 false = m0 at hms
  generalize ms.getD 1 false = m1 at hms
  generalize ms.getD 2 false = m2 at hms
  generalize ms.getD 3 false = m3 at hms
  subst hms
  rcases hvm.inv with ⟨-, h0, -⟩ | ⟨g, l', rfl, hxx, hl', hnc, rfl⟩
  · omega
  have hS : St w [xr, rb] ((b5, .cells ⟨[.int .i64 id, .int .i64 i0, .int .i64 i1, .bool false, .bool false, .bool false, .bool false, .int .i64 i2, .int .i64 i3, .int .i64 i4, .int .i64 i5, .int .i64 0, .int .u8 0]⟩ T_api_Pax (0, 0)) :: (b4, .cells ⟨[.int .i64 0, .int .i64 0, .int .i64 0, .bool false, .bool false, .bool false, .bool false, .int .i64 0, .int .i64 0, .int .i64 0, .int .i64 0, .int .i64 0, .int .u8 0]⟩ T_api_Pax (0, 0)) :: (rrH xr rb s7 ++ [(g, .cells ⟨.bool m0 :: .bool m1 :: .bool m2 :: .bool m3 :: l'⟩ T_bool (0, 0))])) w8 := hS
  repeat (first | refine SemW.run tblOk ?_ | refine jA (by omega) ?_ | refine jB (by omega) ?_ | refine jC (by omega) ?_ | refine jD (by omega) ?_ | refine jE rfl ?_ | refine jF (by omega) ?_ | (refine jG ?_; first | with_reducible (first | refine jH ?_ | refine jI ?_ | refine jJ ?_ | refine jK ?_ | refine jL ?_) | refine jM (by omega) ?_ | refine jN (by omega) ?_ | with_reducible refine jM rfl ?_ | refine jM (by assumption) ?_ | refine jN (by assumption) ?_ | refine jM (by decide) ?_ | refine jN (by decide) ?_) | refine jF (ptr_ok tblOk rfl rfl) ?_ | refine jO (fun _ => by kernel_rfl) ?_ | refine jF (by decide) ?_ | refine hS.ld rfl ?_ | refine hS.ldn rfl ?_ | (refine hS.st rfl rfl ?_; intro _ hS))
  refine SemW.draw tblOk mixed (fun w' => St w [xr, rb] [(g, .cells ⟨.bool m0 :: .bool m1 :: .bool m2 :: .bool m3 :: l'⟩ T_bool (0, 0))] w') [21] [0, 1, 2, 3, 4, 5, 6, 7, 8, 9, 10, 11, 12, 13, 14, 15, 16, 17, 18, 19, 20, 21] (by kernel_rfl) (hS.drew.sub (by simp)) ?_
  have hF := hS.drew
  have hS : St w [xr, rb] [(g, .cells ⟨.bool m0 :: .bool m1 :: .bool m2 :: .bool m3 :: l'⟩ T_bool (0, 0))] _ := hF.sub (by simp)
  repeat (first | refine SemW.run tblOk ?_ | refine jA (by omega) ?_ | refine jB (by omega) ?_ | refine jC (by omega) ?_ | refine jD (by omega) ?_ | refine jE rfl ?_ | refine jF (by omega) ?_ | (refine jG ?_; first | with_reducible (first | refine jH ?_ | refine jI ?_ | refine jJ ?_ | refine jK ?_ | refine jL ?_) | refine jM (by omega) ?_ | refine jN (by omega) ?_ | with_reducible refine jM rfl ?_ | refine jM (by assumption) ?_ | refine jN (by assumption) ?_ | refine jM (by decide) ?_ | refine jN (by decide) ?_) | refine jF (ptr_ok tblOk rfl rfl) ?_ | refine jO (fun _ => by kernel_rfl) ?_ | refine jF (by decide) ?_ | refine hS.ldC rfl ?_ | refine hS.ldnC rfl ?_)
  refine hF.st rfl rfl ?_
  intro _ hF
  refine Chk.mk (hF.sub (by simp)) ?_
  repeat (first | refine SemW.run tblOk ?_ | refine jA (by omega) ?_ | refine jB (by omega) ?_ | refine jC (by omega) ?_ | refine jD (by omega) ?_ | refine jE rfl ?_ | refine jF (by omega) ?_ | (refine jG ?_; first | with_reducible (first | refine jH ?_ | refine jI ?_ | refine jJ ?_ | refine jK ?_ | refine jL ?_) | refine jM (by omega) ?_ | refine jN (by omega) ?_ | with_reducible refine jM rfl ?_ | refine jM (by assumption) ?_ | refine jN (by assumption) ?_ | refine jM (by decide) ?_ | refine jN (by decide) ?_) | refine jF (ptr_ok tblOk rfl rfl) ?_ | refine jO (fun _ => by kernel_rfl) ?_ | refine jF (by decide) ?_ | refine hS.ldC rfl ?_ | refine hS.ldnC rfl ?_)
  refine hF.st rfl rfl ?_
  intro _ hF
  refine Chk.mk (hF.sub (by simp)) ?_
  repeat (first | refine SemW.run tblOk ?_ | refine jA (by omega) ?_ | refine jB (by omega) ?_ | refine jC (by omega) ?_ | refine jD (by omega) ?_ | refine jE rfl ?_ | refine jF (by omega) ?_ | (refine jG ?_; first | with_reducible (first | refine jH ?_ | refine jI ?_ | refine jJ ?_ | refine jK ?_ | refine jL ?_) | refine jM (by omega) ?_ | refine jN (by omega) ?_ | with_reducible refine jM rfl ?_ | refine jM (by assumption) ?_ | refine jN (by assumption) ?_ | refine jM (by decide) ?_ | refine jN (by decide) ?_) | refine jF (ptr_ok tblOk rfl rfl) ?_ | refine jO (fun _ => by kernel_rfl) ?_ | refine jF (by decide) ?_ | refine hS.ldC rfl ?_ | refine hS.ldnC rfl ?_)
  refine hF.st rfl rfl ?_
  intro _ hF
  refine Chk.mk (hF.sub (by simp)) ?_
  repeat (first | refine SemW.run tblOk ?_ | refine jA (by omega) ?_ | refine jB (by omega) ?_ | refine jC (by omega) ?_ | refine jD (by omega) ?_ | refine jE rfl ?_ | refine jF (by omega) ?_ | (refine jG ?_; first | with_reducible (first | refine jH ?_ | refine jI ?_ | refine jJ ?_ | refine jK ?_ | refine jL ?_) | refine jM (by omega) ?_ | refine jN (by omega) ?_ | with_reducible refine jM rfl ?_ | refine jM (by assumption) ?_ | refine jN (by assumption) ?_ | refine jM (by decide) ?_ | refine jN (by decide) ?_) | refine jF (ptr_ok tblOk rfl rfl) ?_ | refine jO (fun _ => by kernel_rfl) ?_ | refine jF (by decide) ?_ | refine hS.ldC rfl ?_ | refine hS.ldnC rfl ?_)
  refine hF.st rfl rfl ?_
  intro _ hS
  repeat (first | refine SemW.run tblOk ?_ | refine jA (by omega) ?_ | refine jB (by omega) ?_ | refine jC (by omega) ?_ | refine jD (by omega) ?_ | refine jE rfl ?_ | refine jF (by omega) ?_ | (refine jG ?_; first | with_reducible (first | refine jH ?_ | refine jI ?_ | refine jJ ?_ | refine jK ?_ | refine jL ?_) | refine jM (by omega) ?_ | refine jN (by omega) ?_ | with_reducible refine jM rfl ?_ | refine jM (by assumption) ?_ | refine jN (by assumption) ?_ | refine jM (by decide) ?_ | refine jN (by decide) ?_) | refine jF (ptr_ok tblOk rfl rfl) ?_ | refine jO (fun _ => by kernel_rfl) ?_ | refine jF (by decide) ?_ | refine hS.ld rfl ?_ | refine hS.ldn rfl ?_ | (refine hS.st rfl rfl ?_; intro _ hS))
  refine Cl.mono (rrtext_spec (s := s7) (hS.part (L := rrH xr rb s7)) (by omega)) ?_
  rintro _ w9 ⟨rfl, hS'⟩
  have hS := hS.call (L := rrH xr rb s7) hS'
  have ht8 := Nat.le_trans (wText_tlen s7) ht
  have hxl := textO_len s7.t
  have hxl : (wText s7).1.length ≤ 1000000000 := by show (textO s7.t).1.length ≤ _; omega
  generalize wText s7 = y at hS ht8 hM hxl ⊢
  obtain ⟨x, t8, b8⟩ := y
  simp only at hS ht8 hM hxl ⊢
  have hS : St w [xr, rb] ((b5, .cells ⟨[.int .i64 id, .int .i64 i0, .int .i64 i1, .bool m0, .bool m1, .bool m2, .bool m3, .int .i64 i2, .int .i64 i3, .int .i64 i4, .int .i64 i5, .int .i64 0, .int .u8 0]⟩ T_api_Pax (0, 0)) :: (b4, .cells ⟨[.int .i64 0, .int .i64 0, .int .i64 0, .bool false, .bool false, .bool false, .bool false, .int .i64 0, .int .i64 0, .int .i64 0, .int .i64 0, .int .i64 0, .int .u8 0]⟩ T_api_Pax (0, 0)) :: ((xr, .cells ⟨[ptr rb, .bool b8]⟩ T_rows_reader (0, 0)) :: (rb, rdC t8) :: [(g, .cells ⟨.bool m0 :: .bool m1 :: .bool m2 :: .bool m3 :: l'⟩ T_bool (0, 0))])) w9 := hS
  by_cases hx0 : x = []
  · subst hx0
    have hM2 : X = (⟨id, i0, i1, m0, m1, m2, m3, i2, i3, i4, i5, 0, 0⟩, ⟨t8, b8⟩) := by rw [← hM]; unfold rPaxT; simp only [parseO_nil, Bool.or_false, ne_eq, not_true_eq_false, decide_false, Bool.and_false]; rfl
    rw [hM2]
    repeat (first | refine SemW.run tblOk ?_ | refine jA (by omega) ?_ | refine jB (by omega) ?_ | refine jC (by omega) ?_ | refine jD (by omega) ?_ | refine jE rfl ?_ | refine jF (by omega) ?_ | (refine jG ?_; first | with_reducible (first | refine jH ?_ | refine jI ?_ | refine jJ ?_ | refine jK ?_ | refine jL ?_) | refine jM (by omega) ?_ | refine jN (by omega) ?_ | with_reducible refine jM rfl ?_ | refine jM (by assumption) ?_ | refine jN (by assumption) ?_ | refine jM (by decide) ?_ | refine jN (by decide) ?_) | refine jF (ptr_ok tblOk rfl rfl) ?_ | refine jO (fun _ => by kernel_rfl) ?_ | refine jF (by decide) ?_ | refine hS.ld rfl ?_ | refine hS.ldn rfl ?_ | (refine hS.st rfl rfl ?_; intro _ hS))
    exact ⟨rfl, hS.sub (by simp)⟩
  · repeat (first | refine SemW.run tblOk ?_ | refine jA (by omega) ?_ | refine jB (by omega) ?_ | refine jC (by omega) ?_ | refine jD (by omega) ?_ | refine jE rfl ?_ | refine jF (by omega) ?_ | (refine jG ?_; first | with_reducible (first | refine jH ?_ | refine jI ?_ | refine jJ ?_ | refine jK ?_ | refine jL ?_) | refine jM (by omega) ?_ | refine jN (by omega) ?_ | with_reducible refine jM rfl ?_ | refine jM (by assumption) ?_ | refine jN (by assumption) ?_ | refine jM (by decide) ?_ | refine jN (by decide) ?_) | refine jF (ptr_ok tblOk rfl rfl) ?_ | refine jO (fun _ => by kernel_rfl) ?_ | refine jF (by decide) ?_ | refine hS.ld rfl ?_ | refine hS.ldn rfl ?_ | (refine hS.st rfl rfl ?_; intro _ hS))
    refine Cl.mono (Parse_spec (s := x) (by omega) (hE.keep hS (by simp; exact ⟨fun h => hap1.1 h.symm, fun h => hap2.1 h.symm⟩) (by simp; exact ⟨fun h => hap1.2 h.symm, fun h => hap2.2 h.symm⟩))) ?_
    rintro _ w10 ⟨rfl, hS'⟩
    have hS := hS.call0 hS'
    have hM2 : X = (⟨id, i0, i1, m0, m1, m2, m3, i2, i3, i4, i5, (parseO x).1, (parseO x).2.1⟩, ⟨t8, b8 || !(parseO x).2.2⟩) := by rw [← hM]; unfold rPaxT; rw [decide_eq_true hx0, Bool.and_true]; rfl
    rw [hM2]
    clear hM hM2
    generalize parseO x = q at *
    obtain ⟨pn, pc, ok⟩ := q
    simp only at *
    unfold seatAt
    repeat (first | refine SemW.run tblOk ?_ | refine jA (by omega) ?_ | refine jB (by omega) ?_ | refine jC (by omega) ?_ | refine jD (by omega) ?_ | refine jE rfl ?_ | refine jF (by omega) ?_ | (refine jG ?_; first | with_reducible (first | refine jH ?_ | refine jI ?_ | refine jJ ?_ | refine jK ?_ | refine jL ?_) | refine jM (by omega) ?_ | refine jN (by omega) ?_ | with_reducible refine jM rfl ?_ | refine jM (by assumption) ?_ | refine jN (by assumption) ?_ | refine jM (by decide) ?_ | refine jN (by decide) ?_) | refine jF (ptr_ok tblOk rfl rfl) ?_ | refine jO (fun _ => by kernel_rfl) ?_ | refine jF (by decide) ?_ | refine hS.ld rfl ?_ | refine hS.ldn rfl ?_ | (refine hS.st rfl rfl ?_; intro _ hS))
    refine hS.al ?_
    intro b8' w11 _ hS
    repeat (first | refine SemW.run tblOk ?_ | refine jA (by omega) ?_ | refine jB (by omega) ?_ | refine jC (by omega) ?_ | refine jD (by omega) ?_ | refine jE rfl ?_ | refine jF (by omega) ?_ | (refine jG ?_; first | with_reducible (first | refine jH ?_ | refine jI ?_ | refine jJ ?_ | refine jK ?_ | refine jL ?_) | refine jM (by omega) ?_ | refine jN (by omega) ?_ | with_reducible refine jM rfl ?_ | refine jM (by assumption) ?_ | refine jN (by assumption) ?_ | refine jM (by decide) ?_ | refine jN (by decide) ?_) | refine jF (ptr_ok tblOk rfl rfl) ?_ | refine jO (fun _ => by kernel_rfl) ?_ | refine jF (by decide) ?_ | refine hS.ld rfl ?_ | refine hS.ldn rfl ?_ | (refine hS.st rfl rfl ?_; intro _ hS))
    cases b8 with
    | true =>
      repeat (first | refine SemW.run tblOk ?_ | refine jA (by omega) ?_ | refine jB (by omega) ?_ | refine jC (by omega) ?_ | refine jD (by omega) ?_ | refine jE rfl ?_ | refine jF (by omega) ?_ | (refine jG ?_; first | with_reducible (first | refine jH ?_ | refine jI ?_ | refine jJ ?_ | refine jK ?_ | refine jL ?_) | refine jM (by omega) ?_ | refine jN (by omega) ?_ | with_reducible refine jM rfl ?_ | refine jM (by assumption) ?_ | refine jN (by assumption) ?_ | refine jM (by decide) ?_ | refine jN (by decide) ?_) | refine jF (ptr_ok tblOk rfl rfl) ?_ | refine jO (fun _ => by kernel_rfl) ?_ | refine jF (by decide) ?_ | refine hS.ld rfl ?_ | refine hS.ldn rfl ?_ | (refine hS.st rfl rfl ?_; intro _ hS))
      exact ⟨rfl, hS.sub (List.Sublist.cons _ (List.Sublist.cons _ (List.Sublist.cons _ (List.Sublist.cons_cons _ (List.Sublist.cons_cons _ (List.nil_sublist _))))))⟩
    | false =>
      repeat (first | refine SemW.run tblOk ?_ | refine jA (by omega) ?_ | refine jB (by omega) ?_ | refine jC (by omega) ?_ | refine jD (by omega) ?_ | refine jE rfl ?_ | refine jF (by omega) ?_ | (refine jG ?_; first | with_reducible (first | refine jH ?_ | refine jI ?_ | refine jJ ?_ | refine jK ?_ | refine jL ?_) | refine jM (by omega) ?_ | refine jN (by omega) ?_ | with_reducible refine jM rfl ?_ | refine jM (by assumption) ?_ | refine jN (by assumption) ?_ | refine jM (by decide) ?_ | refine jN (by decide) ?_) | refine jF (ptr_ok tblOk rfl rfl) ?_ | refine jO (fun _ => by kernel_rfl) ?_ | refine jF (by decide) ?_ | refine hS.ld rfl ?_ | refine hS.ldn rfl ?_ | (refine hS.st rfl rfl ?_; intro _ hS))
      exact ⟨rfl, hS.sub (List.Sublist.cons _ (List.Sublist.cons _ (List.Sublist.cons _ (List.Sublist.cons_cons _ (List.Sublist.cons_cons _ (List.nil_sublist _))))))⟩
end Go.Proofs.YthpmmfapolcaiaaGreatDoor

/- Package rows: one record taken in. -/
namespace Go.Proofs.YthpmmfapolcaiaaGreatDoor
open Go Go.Eng Go.Proofs
/-- The memory of equipments' rows. -/
inductive EqsIn : Heap → List EquipM → List Value → Prop
  | nil : EqsIn [] [] []
  | snoc {L Le : Heap} {es : List EquipM} {xs : List Value} {e : EquipM} {a : Option Addr} {cap : Nat} (h : EqsIn L es xs) (hv : Vec T_api_Row 5 a e.rows.length cap (e.rows.flatMap rowC) Le) : EqsIn (Le ++ L) (es ++ [e]) (xs ++ [.int .i64 e.id, .slice a e.rows.length cap])
/-- A state's own memory. -/
structure StOwn (s : StateM) (a b c : Option Addr) (ca cb cc : Nat) (La Lr Lb Lc : Heap) : Prop where
  eqs : ∃ xs, Vec T_api_Equip 2 a s.eqs.length ca xs La ∧ EqsIn Lr s.eqs xs
  fls : Vec T_api_Flight 8 b s.fls.length cb (s.fls.flatMap flC) Lb
  pxs : Vec T_api_Pax 13 c s.pxs.length cc (s.pxs.flatMap paxC) Lc
abbrev stH (sb : Nat) (s : StateM) (a b c : Option Addr) (ca cb cc : Nat) (La Lr Lb Lc : Heap) : Heap := (sb, .cells ⟨[.slice a s.eqs.length ca, .slice b s.fls.length cb, .slice c s.pxs.length cc]⟩ T_api_State (0, 0)) :: (La ++ (Lr ++ (Lb ++ Lc)))
def RecPost (o : OpM) (s : StateM) (sb : Nat) (T : List Nat) (v : Value) (w w' : World) : Prop :=
  (v = .bool true ∧ ∃ R, recOk R ∧ rop (recR R) = o ∧ ∃ a b c ca cb cc La Lr Lb Lc, StOwn (addR s R) a b c ca cb cc La Lr Lb Lc ∧ St w T (stH sb (addR s R) a b c ca cb cc La Lr Lb Lc) w') ∨
  (v = .bool false ∧ (∀ R, recOk R → rop (recR R) ≠ o) ∧ St w T [] w')
theorem noKey {ps : List PartM} {k : Bytes} (h : Spl k ps) (hp : ∀ c n, ps ≠ [.text [c], .num n]) : ∀ qs, Spl k qs → ∀ (c : UInt8) (n : Int), (c = 101 ∨ c = 102 ∨ c = 112) → qs ≠ [.text [c], .num n] := fun qs hq c n _ => by
  rw [spl_inj hq h]; exact hp c n
theorem subS {B : Heap} (A : Heap) {x : Nat × Obj} (h : [x].Sublist B) : [x].Sublist (A ++ B) := h.trans (List.sublist_append_right _ _)
theorem heap_mv (x : Nat × Obj) (A B C R : Heap) : (A ++ (x :: (B ++ (C ++ R)))).Perm (x :: (B ++ ((A ++ C) ++ R))) := by
  refine List.perm_middle.trans (List.Perm.cons x ?_)
  rw [List.append_assoc A C R, ← List.append_assoc A B, ← List.append_assoc B A]
  exact List.Perm.append_right _ List.perm_append_comm
theorem subA {L A : Heap} {x X1 X2 : Nat × Obj} {B : Heap} : (L ++ B).Sublist (x :: (A ++ (L ++ (X1 :: X2 :: B)))) :=
  List.Sublist.cons _ ((List.Sublist.append_left (List.Sublist.cons _ (List.Sublist.cons _ (List.Sublist.refl _))) L).trans (List.sublist_append_right _ _))
theorem subB {A : Heap} {x X1 X2 : Nat × Obj} {B : Heap} : B.Sublist (x :: (A ++ (X1 :: X2 :: B))) :=
  List.Sublist.cons _ ((List.Sublist.cons _ (List.Sublist.cons _ (List.Sublist.refl _))).trans (List.sublist_append_right _ _))
set_option maxRecDepth 4000 in
set_option maxHeartbeats 8000000 in
theorem record_spec {w : World} {sb : Nat} {s : StateM} {a b c : Option Addr} {ca cb cc : Nat} {La Lr Lb Lc : Heap} {o : OpM} (hO : StOwn s a b c ca cb cc La Lr Lb Lc) (hh : Holds (stH sb s a b c ca cb cc La Lr Lb Lc) w) (hk : o.1.length ≤ 1048576) (hv : o.2.2.length ≤ 100000000) (hn : s.eqs.length + s.fls.length + s.pxs.length ≤ 1048576) (hE : ErrVars w) (hT : errG0 ∉ keys (stH sb s a b c ca cb cc La Lr Lb Lc) ∧ errG1 ∉ keys (stH sb s a b c ca cb cc La Lr Lb Lc)) :
    Cl Tryz.prog f_rows_record [ptr sb, .agg ⟨opDC o⟩] w fun v w' => RecPost o s sb (keys (stH sb s a b c ca cb cc La Lr Lb Lc)) v w w' := by
  have hS := St.enter hh
  generalize keys (stH sb s a b c ca cb cc La Lr Lb Lc) = T0 at hS hT ⊢
  obtain ⟨k, d, v⟩ := o
  simp only at hk hv
  unfold opDC
  refine en_rows_record rfl ?_
  repeat (first | refine SemW.run tblOk ?_ | refine jA (by omega) ?_ | refine jB (by omega) ?_ | refine jC (by omega) ?_ | refine jD (by omega) ?_ | refine jE rfl ?_ | refine jF (by omega) ?_ | (refine jG ?_; first | with_reducible (first | refine jH ?_ | refine jI ?_ | refine jJ ?_ | refine jK ?_ | refine jL ?_) | refine jM (by omega) ?_ | refine jN (by omega) ?_ | with_reducible refine jM rfl ?_ | refine jM (by assumption) ?_ | refine jN (by assumption) ?_ | refine jM (by decide) ?_ | refine jN (by decide) ?_) | refine jF (ptr_ok tblOk rfl rfl) ?_ | refine jO (fun _ => by kernel_rfl) ?_ | refine jF (by decide) ?_)
  refine hS.al ?_
  intro b3 w1 _ hS
  repeat (first | refine SemW.run tblOk ?_ | refine jA (by omega) ?_ | refine jB (by omega) ?_ | refine jC (by omega) ?_ | refine jD (by omega) ?_ | refine jE rfl ?_ | refine jF (by omega) ?_ | (refine jG ?_; first | with_reducible (first | refine jH ?_ | refine jI ?_ | refine jJ ?_ | refine jK ?_ | refine jL ?_) | refine jM (by omega) ?_ | refine jN (by omega) ?_ | with_reducible refine jM rfl ?_ | refine jM (by assumption) ?_ | refine jN (by assumption) ?_ | refine jM (by decide) ?_ | refine jN (by decide) ?_) | refine jF (ptr_ok tblOk rfl rfl) ?_ | refine jO (fun _ => by kernel_rfl) ?_ | refine jF (by decide) ?_ | refine hS.ld rfl ?_ | refine hS.ldn rfl ?_ | (refine hS.st rfl rfl ?_; intro _ hS))
  refine Cl.mono (OSplit_spec hk) ?_
  rintro _ w2 (⟨ps, ap, cp, Lp, rfl, hsp, hvp, hS'⟩ | ⟨rfl, hno, hS'⟩)
  rotate_left
  · have hS := hS.call0 hS'
    repeat (first | refine SemW.run tblOk ?_ | refine jA (by omega) ?_ | refine jB (by omega) ?_ | refine jC (by omega) ?_ | refine jD (by omega) ?_ | refine jE rfl ?_ | refine jF (by omega) ?_ | (refine jG ?_; first | with_reducible (first | refine jH ?_ | refine jI ?_ | refine jJ ?_ | refine jK ?_ | refine jL ?_) | refine jM (by omega) ?_ | refine jN (by omega) ?_ | with_reducible refine jM rfl ?_ | refine jM (by assumption) ?_ | refine jN (by assumption) ?_ | refine jM (by decide) ?_ | refine jN (by decide) ?_) | refine jF (ptr_ok tblOk rfl rfl) ?_ | refine jO (fun _ => by kernel_rfl) ?_ | refine jF (by decide) ?_ | refine hS.ld rfl ?_ | refine hS.ldn rfl ?_ | (refine hS.st rfl rfl ?_; intro _ hS))
    exact .inr ⟨rfl, noRec_key fun qs hq => absurd hq (hno qs), hS.nil⟩
  have hS := hS.callNew hS'
  cases d with
  | true =>
    repeat (first | refine SemW.run tblOk ?_ | refine jA (by omega) ?_ | refine jB (by omega) ?_ | refine jC (by omega) ?_ | refine jD (by omega) ?_ | refine jE rfl ?_ | refine jF (by omega) ?_ | (refine jG ?_; first | with_reducible (first | refine jH ?_ | refine jI ?_ | refine jJ ?_ | refine jK ?_ | refine jL ?_) | refine jM (by omega) ?_ | refine jN (by omega) ?_ | with_reducible refine jM rfl ?_ | refine jM (by assumption) ?_ | refine jN (by assumption) ?_ | refine jM (by decide) ?_ | refine jN (by decide) ?_) | refine jF (ptr_ok tblOk rfl rfl) ?_ | refine jO (fun _ => by kernel_rfl) ?_ | refine jF (by decide) ?_ | refine hS.ld rfl ?_ | refine hS.ldn rfl ?_ | (refine hS.st rfl rfl ?_; intro _ hS))
    exact .inr ⟨rfl, noRec_dead rfl, hS.nil⟩
  | false =>
  by_cases hl : ps.length = 2
  rotate_left
  · repeat (first | refine SemW.run tblOk ?_ | refine jA (by omega) ?_ | refine jB (by omega) ?_ | refine jC (by omega) ?_ | refine jD (by omega) ?_ | refine jE rfl ?_ | refine jF (by omega) ?_ | (refine jG ?_; first | with_reducible (first | refine jH ?_ | refine jI ?_ | refine jJ ?_ | refine jK ?_ | refine jL ?_) | refine jM (by omega) ?_ | refine jN (by omega) ?_ | with_reducible refine jM rfl ?_ | refine jM (by assumption) ?_ | refine jN (by assumption) ?_ | refine jM (by decide) ?_ | refine jN (by decide) ?_) | refine jF (ptr_ok tblOk rfl rfl) ?_ | refine jO (fun _ => by kernel_rfl) ?_ | refine jF (by decide) ?_ | refine hS.ld rfl ?_ | refine hS.ldn rfl ?_ | (refine hS.st rfl rfl ?_; intro _ hS))
    exact .inr ⟨rfl, noRec_key (noKey hsp (by intro c n e; rw [e] at hl; exact hl rfl)), hS.nil⟩
  obtain ⟨p, q, rfl⟩ : ∃ p q, ps = [p, q] := by
    match ps, hl with
    | [p, q], _ => exact ⟨p, q, rfl⟩
  rcases hvp.inv with ⟨-, h0, -⟩ | ⟨g, l', rfl, hxx, hl', hnc, rfl⟩
  · cases h0
  cases p with
  | num n1 =>
    have hS : St w T0 ((g, .cells ⟨.int .i64 1 :: .int .i64 n1 :: Str [] :: (partC q ++ l')⟩ T_api_Part (0, 0)) :: (b3, .cells ⟨[Str k, .bool false, Str v]⟩ T_api_Op (0, 0)) :: stH sb s a b c ca cb cc La Lr Lb Lc) w2 := by
      have e : [PartM.num n1, q].flatMap partC ++ l' = .int .i64 1 :: .int .i64 n1 :: Str [] :: (partC q ++ l') := by simp [partC]
      rw [e] at hS; exact hS
    repeat (first | refine SemW.run tblOk ?_ | refine jA (by omega) ?_ | refine jB (by omega) ?_ | refine jC (by omega) ?_ | refine jD (by omega) ?_ | refine jE rfl ?_ | refine jF (by omega) ?_ | (refine jG ?_; first | with_reducible (first | refine jH ?_ | refine jI ?_ | refine jJ ?_ | refine jK ?_ | refine jL ?_) | refine jM (by omega) ?_ | refine jN (by omega) ?_ | with_reducible refine jM rfl ?_ | refine jM (by assumption) ?_ | refine jN (by assumption) ?_ | refine jM (by decide) ?_ | refine jN (by decide) ?_) | refine jF (ptr_ok tblOk rfl rfl) ?_ | refine jO (fun _ => by kernel_rfl) ?_ | refine jF (by decide) ?_ | refine hS.ld rfl ?_ | refine hS.ldn rfl ?_ | (refine hS.st rfl rfl ?_; intro _ hS))
    exact .inr ⟨rfl, noRec_key (noKey hsp (by intro c n e; cases e)), hS.nil⟩
  | text t =>
    cases q with
    | text t2 =>
      repeat (first | refine SemW.run tblOk ?_ | refine jA (by omega) ?_ | refine jB (by omega) ?_ | refine jC (by omega) ?_ | refine jD (by omega) ?_ | refine jE rfl ?_ | refine jF (by omega) ?_ | (refine jG ?_; first | with_reducible (first | refine jH ?_ | refine jI ?_ | refine jJ ?_ | refine jK ?_ | refine jL ?_) | refine jM (by omega) ?_ | refine jN (by omega) ?_ | with_reducible refine jM rfl ?_ | refine jM (by assumption) ?_ | refine jN (by assumption) ?_ | refine jM (by decide) ?_ | refine jN (by decide) ?_) | refine jF (ptr_ok tblOk rfl rfl) ?_ | refine jO (fun _ => by kernel_rfl) ?_ | refine jF (by decide) ?_ | refine hS.ld rfl ?_ | refine hS.ldn rfl ?_ | (refine hS.st rfl rfl ?_; intro _ hS))
      exact .inr ⟨rfl, noRec_key (noKey hsp (by intro c n e; cases e)), hS.nil⟩
    | num n =>
      have hn64 : i64b n := hsp.2 (.num n) (by simp)
      have hS : St w T0 ((g, .cells ⟨.int .i64 2 :: .int .i64 0 :: Str t :: .int .i64 1 :: .int .i64 n :: Str [] :: l'⟩ T_api_Part (0, 0)) :: (b3, .cells ⟨[Str k, .bool false, Str v]⟩ T_api_Op (0, 0)) :: stH sb s a b c ca cb cc La Lr Lb Lc) w2 := hS
      repeat (first | refine SemW.run tblOk ?_ | refine jA (by omega) ?_ | refine jB (by omega) ?_ | refine jC (by omega) ?_ | refine jD (by omega) ?_ | refine jE rfl ?_ | refine jF (by omega) ?_ | (refine jG ?_; first | with_reducible (first | refine jH ?_ | refine jI ?_ | refine jJ ?_ | refine jK ?_ | refine jL ?_) | refine jM (by omega) ?_ | refine jN (by omega) ?_ | with_reducible refine jM rfl ?_ | refine jM (by assumption) ?_ | refine jN (by assumption) ?_ | refine jM (by decide) ?_ | refine jN (by decide) ?_) | refine jF (ptr_ok tblOk rfl rfl) ?_ | refine jO (fun _ => by kernel_rfl) ?_ | refine jF (by decide) ?_ | refine hS.ld rfl ?_ | refine hS.ldn rfl ?_ | (refine hS.st rfl rfl ?_; intro _ hS))
      refine Cl.mono PRead_spec ?_
      rintro _ w3 ⟨rb, rfl, hS'⟩
      have hS := hS.callNew hS'
      repeat (first | refine SemW.run tblOk ?_ | refine jA (by omega) ?_ | refine jB (by omega) ?_ | refine jC (by omega) ?_ | refine jD (by omega) ?_ | refine jE rfl ?_ | refine jF (by omega) ?_ | (refine jG ?_; first | with_reducible (first | refine jH ?_ | refine jI ?_ | refine jJ ?_ | refine jK ?_ | refine jL ?_) | refine jM (by omega) ?_ | refine jN (by omega) ?_ | with_reducible refine jM rfl ?_ | refine jM (by assumption) ?_ | refine jN (by assumption) ?_ | refine jM (by decide) ?_ | refine jN (by decide) ?_) | refine jF (ptr_ok tblOk rfl rfl) ?_ | refine jO (fun _ => by kernel_rfl) ?_ | refine jF (by decide) ?_ | refine hS.ld rfl ?_ | refine hS.ldn rfl ?_ | (refine hS.st rfl rfl ?_; intro _ hS))
      refine hS.al ?_
      intro xr w4 _ hS
      repeat (first | refine SemW.run tblOk ?_ | refine jA (by omega) ?_ | refine jB (by omega) ?_ | refine jC (by omega) ?_ | refine jD (by omega) ?_ | refine jE rfl ?_ | refine jF (by omega) ?_ | (refine jG ?_; first | with_reducible (first | refine jH ?_ | refine jI ?_ | refine jJ ?_ | refine jK ?_ | refine jL ?_) | refine jM (by omega) ?_ | refine jN (by omega) ?_ | with_reducible refine jM rfl ?_ | refine jM (by assumption) ?_ | refine jN (by assumption) ?_ | refine jM (by decide) ?_ | refine jN (by decide) ?_) | refine jF (ptr_ok tblOk rfl rfl) ?_ | refine jO (fun _ => by kernel_rfl) ?_ | refine jF (by decide) ?_ | refine hS.ld rfl ?_ | refine hS.ldn rfl ?_ | (refine hS.st rfl rfl ?_; intro _ hS))
      have hS : St w T0 (rrH xr rb ⟨v, false⟩ ++ ((g, .cells ⟨.int .i64 2 :: .int .i64 0 :: Str t :: .int .i64 1 :: .int .i64 n :: Str [] :: l'⟩ T_api_Part (0, 0)) :: (b3, .cells ⟨[Str k, .bool false, Str v]⟩ T_api_Op (0, 0)) :: stH sb s a b c ca cb cc La Lr Lb Lc)) _ := hS
      generalize (g, Obj.cells ⟨.int .i64 2 :: .int .i64 0 :: Str t :: .int .i64 1 :: .int .i64 n :: Str [] :: l'⟩ T_api_Part (0, 0)) = X1 at hS
      generalize (b3, Obj.cells ⟨[Str k, .bool false, Str v]⟩ T_api_Op (0, 0)) = X2 at hS
      by_cases h1 : t = [101]
      · have hsp := hsp
        rw [h1] at hsp
        have hkk := (keyB_spl (by decide) hsp).1
        obtain ⟨xs, hva, hin⟩ := hO.eqs
        repeat (first | refine SemW.run tblOk ?_ | refine jA (by omega) ?_ | refine jB (by omega) ?_ | refine jC (by omega) ?_ | refine jD (by omega) ?_ | refine jE rfl ?_ | refine jF (by omega) ?_ | (refine jG ?_; first | with_reducible (first | refine jH ?_ | refine jI ?_ | refine jJ ?_ | refine jK ?_ | refine jL ?_) | refine jM (by omega) ?_ | refine jN (by omega) ?_ | with_reducible refine jM rfl ?_ | refine jM (by assumption) ?_ | refine jN (by assumption) ?_ | refine jM (by decide) ?_ | refine jN (by decide) ?_) | refine jF (ptr_ok tblOk rfl rfl) ?_ | refine jO (fun _ => by kernel_rfl) ?_ | refine jF (by decide) ?_ | refine hS.ld rfl ?_ | refine hS.ldn rfl ?_ | (refine hS.st rfl rfl ?_; intro _ hS))
        refine SemW.draw tblOk mixed (fun w' => St w T0 [(sb, .cells ⟨[.slice a s.eqs.length ca, .slice b s.fls.length cb, .slice c s.pxs.length cc]⟩ T_api_State (0, 0))] w') [12] [0, 1, 2, 3, 4, 5, 6, 7, 8, 9, 10, 11, 12] (by kernel_rfl) (hS.drew.sub (subS _ (List.Sublist.cons _ (List.Sublist.cons _ (List.Sublist.cons_cons _ (List.nil_sublist _)))))) ?_
        have hF := hS.drew
        have hS : St w T0 [(sb, .cells ⟨[.slice a s.eqs.length ca, .slice b s.fls.length cb, .slice c s.pxs.length cc]⟩ T_api_State (0, 0))] _ := hF.sub (subS _ (List.Sublist.cons _ (List.Sublist.cons _ (List.Sublist.cons_cons _ (List.nil_sublist _)))))
        repeat (first | refine SemW.run tblOk ?_ | refine jA (by omega) ?_ | refine jB (by omega) ?_ | refine jC (by omega) ?_ | refine jD (by omega) ?_ | refine jE rfl ?_ | refine jF (by omega) ?_ | (refine jG ?_; first | with_reducible (first | refine jH ?_ | refine jI ?_ | refine jJ ?_ | refine jK ?_ | refine jL ?_) | refine jM (by omega) ?_ | refine jN (by omega) ?_ | with_reducible refine jM rfl ?_ | refine jM (by assumption) ?_ | refine jN (by assumption) ?_ | refine jM (by decide) ?_ | refine jN (by decide) ?_) | refine jF (ptr_ok tblOk rfl rfl) ?_ | refine jO (fun _ => by kernel_rfl) ?_ | refine jF (by decide) ?_ | refine hS.ldC rfl ?_ | refine hS.ldnC rfl ?_)
        refine Cl.mono (rrequip_spec (s := ⟨v, false⟩) (id := n) (hF.part (L := rrH xr rb ⟨v, false⟩)) (by simp only; omega)) ?_
        rintro _ w5 ⟨a5, c5, L5, rfl, hv5, hS'⟩
        have hF := hF.call (L := rrH xr rb ⟨v, false⟩) hS'
        have hrec := rec_eq (v := v) hn64
        have hnor := noRec_eq (v := v) hkk
        generalize rRowsT ⟨v, false⟩ = y at hF hv5 hrec hnor
        obtain ⟨⟨t5, bd⟩, rws⟩ := y
        simp only at hF hv5 hrec hnor ⊢
        refine Chk.mk (hF.sub (subS _ (List.Sublist.cons _ (List.Sublist.cons _ (List.Sublist.cons_cons _ (List.nil_sublist _)))))) ?_
        refine hF.al ?_
        intro r w6 _ hF
        have hF : St w T0 ((r, .cells ⟨[.int .i64 n, .slice a5 rws.length c5]⟩ T_api_Equip (0, 0)) :: (rrH xr rb ⟨t5, bd⟩ ++ (L5 ++ (X1 :: X2 :: stH sb s a b c ca cb cc La Lr Lb Lc)))) _ := hF
        refine Chk.mk (hF.sub (List.Sublist.cons _ (subS _ (subS _ (List.Sublist.cons _ (List.Sublist.cons _ (List.Sublist.cons_cons _ (List.nil_sublist _)))))))) ?_
        repeat (first | refine SemW.run tblOk ?_ | refine jA (by omega) ?_ | refine jB (by omega) ?_ | refine jC (by omega) ?_ | refine jD (by omega) ?_ | refine jE rfl ?_ | refine jF (by omega) ?_ | (refine jG ?_; first | with_reducible (first | refine jH ?_ | refine jI ?_ | refine jJ ?_ | refine jK ?_ | refine jL ?_) | refine jM (by omega) ?_ | refine jN (by omega) ?_ | with_reducible refine jM rfl ?_ | refine jM (by assumption) ?_ | refine jN (by assumption) ?_ | refine jM (by decide) ?_ | refine jN (by decide) ?_) | refine jF (ptr_ok tblOk rfl rfl) ?_ | refine jO (fun _ => by kernel_rfl) ?_ | refine jF (by decide) ?_ | refine hS.ldC rfl ?_ | refine hS.ldnC rfl ?_)
        refine St.app (sz := 2) (m := 1) tblOk rfl rfl rfl rfl hF hva (news := [.int .i64 n, .slice a5 rws.length c5]) rfl (by have := hF.arr (b := r) (T' := []) (by simp); exact this) rfl (by show (_ + _) * 32 ≤ _; omega) (by omega) ?_
        intro a6 c6 L6 w7 hva hF
        have e8 : s.eqs.length + 1 = (s.eqs ++ [(⟨n, rws⟩ : EquipM)]).length := by simp
        rw [e8] at hva ⊢
        refine Chk.mk (hF.sub (List.Sublist.cons _ (subS _ (subS _ (List.Sublist.cons _ (List.Sublist.cons _ (List.Sublist.cons_cons _ (List.nil_sublist _)))))))) ?_
        repeat (first | refine SemW.run tblOk ?_ | refine jA (by omega) ?_ | refine jB (by omega) ?_ | refine jC (by omega) ?_ | refine jD (by omega) ?_ | refine jE rfl ?_ | refine jF (by omega) ?_ | (refine jG ?_; first | with_reducible (first | refine jH ?_ | refine jI ?_ | refine jJ ?_ | refine jK ?_ | refine jL ?_) | refine jM (by omega) ?_ | refine jN (by omega) ?_ | with_reducible refine jM rfl ?_ | refine jM (by assumption) ?_ | refine jN (by assumption) ?_ | refine jM (by decide) ?_ | refine jN (by decide) ?_) | refine jF (ptr_ok tblOk rfl rfl) ?_ | refine jO (fun _ => by kernel_rfl) ?_ | refine jF (by decide) ?_ | refine hS.ldC rfl ?_ | refine hS.ldnC rfl ?_)
        refine hF.st rfl rfl ?_
        intro _ hS
        have hO2 : StOwn (addR s (.eq ⟨n, rws⟩)) a6 b c c6 cb cc L6 (L5 ++ Lr) Lb Lc := ⟨⟨_, hva, EqsIn.snoc (e := ⟨n, rws⟩) hin hv5⟩, hO.fls, hO.pxs⟩
        cases bd with
        | true =>
          repeat (first | refine SemW.run tblOk ?_ | refine jA (by omega) ?_ | refine jB (by omega) ?_ | refine jC (by omega) ?_ | refine jD (by omega) ?_ | refine jE rfl ?_ | refine jF (by omega) ?_ | (refine jG ?_; first | with_reducible (first | refine jH ?_ | refine jI ?_ | refine jJ ?_ | refine jK ?_ | refine jL ?_) | refine jM (by omega) ?_ | refine jN (by omega) ?_ | with_reducible refine jM rfl ?_ | refine jM (by assumption) ?_ | refine jN (by assumption) ?_ | refine jM (by decide) ?_ | refine jN (by decide) ?_) | refine jF (ptr_ok tblOk rfl rfl) ?_ | refine jO (fun _ => by kernel_rfl) ?_ | refine jF (by decide) ?_ | refine hS.ld rfl ?_ | refine hS.ldn rfl ?_ | (refine hS.st rfl rfl ?_; intro _ hS))
          exact .inr ⟨rfl, hnor rfl, hS.nil⟩
        | false =>
          repeat (first | refine SemW.run tblOk ?_ | refine jA (by omega) ?_ | refine jB (by omega) ?_ | refine jC (by omega) ?_ | refine jD (by omega) ?_ | refine jE rfl ?_ | refine jF (by omega) ?_ | (refine jG ?_; first | with_reducible (first | refine jH ?_ | refine jI ?_ | refine jJ ?_ | refine jK ?_ | refine jL ?_) | refine jM (by omega) ?_ | refine jN (by omega) ?_ | with_reducible refine jM rfl ?_ | refine jM (by assumption) ?_ | refine jN (by assumption) ?_ | refine jM (by decide) ?_ | refine jN (by decide) ?_) | refine jF (ptr_ok tblOk rfl rfl) ?_ | refine jO (fun _ => by kernel_rfl) ?_ | refine jF (by decide) ?_ | refine hS.ld rfl ?_ | refine hS.ldn rfl ?_ | (refine hS.st rfl rfl ?_; intro _ hS))
          refine Cl.mono (RDone_spec (t := t5) (hS.part (L := [(rb, rdC t5)]))) ?_
          rintro _ w9 ⟨rfl, hS'⟩
          have hS := hS.call0 hS'
          by_cases ht5 : t5 = []
          · obtain ⟨hro, hre⟩ := hrec (by rw [ht5]; rfl)
            rw [decide_eq_true ht5]
            repeat (first | refine SemW.run tblOk ?_ | refine jA (by omega) ?_ | refine jB (by omega) ?_ | refine jC (by omega) ?_ | refine jD (by omega) ?_ | refine jE rfl ?_ | refine jF (by omega) ?_ | (refine jG ?_; first | with_reducible (first | refine jH ?_ | refine jI ?_ | refine jJ ?_ | refine jK ?_ | refine jL ?_) | refine jM (by omega) ?_ | refine jN (by omega) ?_ | with_reducible refine jM rfl ?_ | refine jM (by assumption) ?_ | refine jN (by assumption) ?_ | refine jM (by decide) ?_ | refine jN (by decide) ?_) | refine jF (ptr_ok tblOk rfl rfl) ?_ | refine jO (fun _ => by kernel_rfl) ?_ | refine jF (by decide) ?_ | refine hS.ld rfl ?_ | refine hS.ldn rfl ?_ | (refine hS.st rfl rfl ?_; intro _ hS))
            have hS := hS.sub (subA (L := L5) (x := (r, _)) (A := rrH xr rb ⟨t5, false⟩) (X1 := X1) (X2 := X2))
            exact .inl ⟨rfl, _, hro, by rw [hre, ← hkk], _, _, _, _, _, _, _, _, _, _, hO2, hS.perm (heap_mv _ _ _ _ _)⟩
          · rw [decide_eq_false ht5]
            repeat (first | refine SemW.run tblOk ?_ | refine jA (by omega) ?_ | refine jB (by omega) ?_ | refine jC (by omega) ?_ | refine jD (by omega) ?_ | refine jE rfl ?_ | refine jF (by omega) ?_ | (refine jG ?_; first | with_reducible (first | refine jH ?_ | refine jI ?_ | refine jJ ?_ | refine jK ?_ | refine jL ?_) | refine jM (by omega) ?_ | refine jN (by omega) ?_ | with_reducible refine jM rfl ?_ | refine jM (by assumption) ?_ | refine jN (by assumption) ?_ | refine jM (by decide) ?_ | refine jN (by decide) ?_) | refine jF (ptr_ok tblOk rfl rfl) ?_ | refine jO (fun _ => by kernel_rfl) ?_ | refine jF (by decide) ?_ | refine hS.ld rfl ?_ | refine hS.ldn rfl ?_ | (refine hS.st rfl rfl ?_; intro _ hS))
            exact .inr ⟨rfl, hnor (by unfold doneR; rw [decide_eq_false ht5]; rfl), hS.nil⟩
      by_cases h2 : t = [102]
      · have hsp := hsp
        rw [h2] at hsp
        have hkk := (keyB_spl (by decide) hsp).1
        repeat (first | refine SemW.run tblOk ?_ | refine jA (by omega) ?_ | refine jB (by omega) ?_ | refine jC (by omega) ?_ | refine jD (by omega) ?_ | refine jE rfl ?_ | refine jF (by omega) ?_ | (refine jG ?_; first | with_reducible (first | refine jH ?_ | refine jI ?_ | refine jJ ?_ | refine jK ?_ | refine jL ?_) | refine jM (by omega) ?_ | refine jN (by omega) ?_ | with_reducible refine jM rfl ?_ | refine jM (by assumption) ?_ | refine jN (by assumption) ?_ | refine jM (by decide) ?_ | refine jN (by decide) ?_) | refine jF (ptr_ok tblOk rfl rfl) ?_ | refine jO (fun _ => by kernel_rfl) ?_ | refine jF (by decide) ?_ | refine hS.ld rfl ?_ | refine hS.ldn rfl ?_ | (refine hS.st rfl rfl ?_; intro _ hS))
        refine SemW.draw tblOk mixed (fun w' => St w T0 [(sb, .cells ⟨[.slice a s.eqs.length ca, .slice b s.fls.length cb, .slice c s.pxs.length cc]⟩ T_api_State (0, 0))] w') [12] [0, 1, 2, 3, 4, 5, 6, 7, 8, 9, 10, 11, 12] (by kernel_rfl) (hS.drew.sub (subS _ (List.Sublist.cons _ (List.Sublist.cons _ (List.Sublist.cons_cons _ (List.nil_sublist _)))))) ?_
        have hF := hS.drew
        have hS : St w T0 [(sb, .cells ⟨[.slice a s.eqs.length ca, .slice b s.fls.length cb, .slice c s.pxs.length cc]⟩ T_api_State (0, 0))] _ := hF.sub (subS _ (List.Sublist.cons _ (List.Sublist.cons _ (List.Sublist.cons_cons _ (List.nil_sublist _)))))
        repeat (first | refine SemW.run tblOk ?_ | refine jA (by omega) ?_ | refine jB (by omega) ?_ | refine jC (by omega) ?_ | refine jD (by omega) ?_ | refine jE rfl ?_ | refine jF (by omega) ?_ | (refine jG ?_; first | with_reducible (first | refine jH ?_ | refine jI ?_ | refine jJ ?_ | refine jK ?_ | refine jL ?_) | refine jM (by omega) ?_ | refine jN (by omega) ?_ | with_reducible refine jM rfl ?_ | refine jM (by assumption) ?_ | refine jN (by assumption) ?_ | refine jM (by decide) ?_ | refine jN (by decide) ?_) | refine jF (ptr_ok tblOk rfl rfl) ?_ | refine jO (fun _ => by kernel_rfl) ?_ | refine jF (by decide) ?_ | refine hS.ldC rfl ?_ | refine hS.ldnC rfl ?_)
        refine Cl.mono (rrflight_spec (s := ⟨v, false⟩) (id := n) (hF.part (L := rrH xr rb ⟨v, false⟩)) (by simp only; omega)) ?_
        rintro _ w5 ⟨rfl, hS'⟩
        have hF := hF.call (L := rrH xr rb ⟨v, false⟩) hS'
        have hrec := rec_fl (v := v) hn64
        have hnor := noRec_fl (v := v) hn64 hkk
        generalize rFl ⟨v, false⟩ n = y at hF hrec hnor
        obtain ⟨x, t5, bd⟩ := y
        simp only at hF hrec hnor ⊢
        refine Chk.mk (hF.sub (subS _ (List.Sublist.cons _ (List.Sublist.cons _ (List.Sublist.cons_cons _ (List.nil_sublist _)))))) ?_
        refine hF.al ?_
        intro r w6 _ hF
        have hF : St w T0 ((r, .cells ⟨flC x⟩ T_api_Flight (0, 0)) :: (rrH xr rb ⟨t5, bd⟩ ++ (X1 :: X2 :: stH sb s a b c ca cb cc La Lr Lb Lc))) _ := hF
        refine Chk.mk (hF.sub (List.Sublist.cons _ (subS _ (List.Sublist.cons _ (List.Sublist.cons _ (List.Sublist.cons_cons _ (List.nil_sublist _))))))) ?_
        repeat (first | refine SemW.run tblOk ?_ | refine jA (by omega) ?_ | refine jB (by omega) ?_ | refine jC (by omega) ?_ | refine jD (by omega) ?_ | refine jE rfl ?_ | refine jF (by omega) ?_ | (refine jG ?_; first | with_reducible (first | refine jH ?_ | refine jI ?_ | refine jJ ?_ | refine jK ?_ | refine jL ?_) | refine jM (by omega) ?_ | refine jN (by omega) ?_ | with_reducible refine jM rfl ?_ | refine jM (by assumption) ?_ | refine jN (by assumption) ?_ | refine jM (by decide) ?_ | refine jN (by decide) ?_) | refine jF (ptr_ok tblOk rfl rfl) ?_ | refine jO (fun _ => by kernel_rfl) ?_ | refine jF (by decide) ?_ | refine hS.ldC rfl ?_ | refine hS.ldnC rfl ?_)
        refine St.app (sz := 8) (m := 1) tblOk rfl rfl rfl rfl hF hO.fls (news := flC x) rfl (by have := hF.arr (b := r) (T' := []) (by simp); exact this) rfl (by show (_ + _) * 64 ≤ _; omega) (by omega) ?_
        intro a6 c6 L6 w7 hv6 hF
        have e9 : s.fls.flatMap flC ++ flC x = (s.fls ++ [x]).flatMap flC := by simp
        have e8 : s.fls.length + 1 = (s.fls ++ [x]).length := by simp
        rw [e9, e8] at hv6
        rw [e8]
        refine Chk.mk (hF.sub (List.Sublist.cons _ (subS _ (List.Sublist.cons _ (List.Sublist.cons _ (List.Sublist.cons_cons _ (List.nil_sublist _))))))) ?_
        repeat (first | refine SemW.run tblOk ?_ | refine jA (by omega) ?_ | refine jB (by omega) ?_ | refine jC (by omega) ?_ | refine jD (by omega) ?_ | refine jE rfl ?_ | refine jF (by omega) ?_ | (refine jG ?_; first | with_reducible (first | refine jH ?_ | refine jI ?_ | refine jJ ?_ | refine jK ?_ | refine jL ?_) | refine jM (by omega) ?_ | refine jN (by omega) ?_ | with_reducible refine jM rfl ?_ | refine jM (by assumption) ?_ | refine jN (by assumption) ?_ | refine jM (by decide) ?_ | refine jN (by decide) ?_) | refine jF (ptr_ok tblOk rfl rfl) ?_ | refine jO (fun _ => by kernel_rfl) ?_ | refine jF (by decide) ?_ | refine hS.ldC rfl ?_ | refine hS.ldnC rfl ?_)
        refine hF.st rfl rfl ?_
        intro _ hS
        cases bd with
        | true =>
          repeat (first | refine SemW.run tblOk ?_ | refine jA (by omega) ?_ | refine jB (by omega) ?_ | refine jC (by omega) ?_ | refine jD (by omega) ?_ | refine jE rfl ?_ | refine jF (by omega) ?_ | (refine jG ?_; first | with_reducible (first | refine jH ?_ | refine jI ?_ | refine jJ ?_ | refine jK ?_ | refine jL ?_) | refine jM (by omega) ?_ | refine jN (by omega) ?_ | with_reducible refine jM rfl ?_ | refine jM (by assumption) ?_ | refine jN (by assumption) ?_ | refine jM (by decide) ?_ | refine jN (by decide) ?_) | refine jF (ptr_ok tblOk rfl rfl) ?_ | refine jO (fun _ => by kernel_rfl) ?_ | refine jF (by decide) ?_ | refine hS.ld rfl ?_ | refine hS.ldn rfl ?_ | (refine hS.st rfl rfl ?_; intro _ hS))
          exact .inr ⟨rfl, hnor rfl, hS.nil⟩
        | false =>
          repeat (first | refine SemW.run tblOk ?_ | refine jA (by omega) ?_ | refine jB (by omega) ?_ | refine jC (by omega) ?_ | refine jD (by omega) ?_ | refine jE rfl ?_ | refine jF (by omega) ?_ | (refine jG ?_; first | with_reducible (first | refine jH ?_ | refine jI ?_ | refine jJ ?_ | refine jK ?_ | refine jL ?_) | refine jM (by omega) ?_ | refine jN (by omega) ?_ | with_reducible refine jM rfl ?_ | refine jM (by assumption) ?_ | refine jN (by assumption) ?_ | refine jM (by decide) ?_ | refine jN (by decide) ?_) | refine jF (ptr_ok tblOk rfl rfl) ?_ | refine jO (fun _ => by kernel_rfl) ?_ | refine jF (by decide) ?_ | refine hS.ld rfl ?_ | refine hS.ldn rfl ?_ | (refine hS.st rfl rfl ?_; intro _ hS))
          refine Cl.mono (RDone_spec (t := t5) (hS.part (L := [(rb, rdC t5)]))) ?_
          rintro _ w9 ⟨rfl, hS'⟩
          have hS := hS.call0 hS'
          by_cases ht5 : t5 = []
          · obtain ⟨hro, hre⟩ := hrec (by rw [ht5]; rfl)
            rw [decide_eq_true ht5]
            repeat (first | refine SemW.run tblOk ?_ | refine jA (by omega) ?_ | refine jB (by omega) ?_ | refine jC (by omega) ?_ | refine jD (by omega) ?_ | refine jE rfl ?_ | refine jF (by omega) ?_ | (refine jG ?_; first | with_reducible (first | refine jH ?_ | refine jI ?_ | refine jJ ?_ | refine jK ?_ | refine jL ?_) | refine jM (by omega) ?_ | refine jN (by omega) ?_ | with_reducible refine jM rfl ?_ | refine jM (by assumption) ?_ | refine jN (by assumption) ?_ | refine jM (by decide) ?_ | refine jN (by decide) ?_) | refine jF (ptr_ok tblOk rfl rfl) ?_ | refine jO (fun _ => by kernel_rfl) ?_ | refine jF (by decide) ?_ | refine hS.ld rfl ?_ | refine hS.ldn rfl ?_ | (refine hS.st rfl rfl ?_; intro _ hS))
            have hS := hS.sub (subB (x := (r, _)) (A := rrH xr rb ⟨t5, false⟩) (X1 := X1) (X2 := X2))
            exact .inl ⟨rfl, _, hro, by rw [hre, ← hkk], _, _, _, _, _, _, _, _, _, _, (⟨hO.eqs, hv6, hO.pxs⟩ : StOwn (addR s (.fl x)) a a6 c ca c6 cc La Lr L6 Lc), hS⟩
          · rw [decide_eq_false ht5]
            repeat (first | refine SemW.run tblOk ?_ | refine jA (by omega) ?_ | refine jB (by omega) ?_ | refine jC (by omega) ?_ | refine jD (by omega) ?_ | refine jE rfl ?_ | refine jF (by omega) ?_ | (refine jG ?_; first | with_reducible (first | refine jH ?_ | refine jI ?_ | refine jJ ?_ | refine jK ?_ | refine jL ?_) | refine jM (by omega) ?_ | refine jN (by omega) ?_ | with_reducible refine jM rfl ?_ | refine jM (by assumption) ?_ | refine jN (by assumption) ?_ | refine jM (by decide) ?_ | refine jN (by decide) ?_) | refine jF (ptr_ok tblOk rfl rfl) ?_ | refine jO (fun _ => by kernel_rfl) ?_ | refine jF (by decide) ?_ | refine hS.ld rfl ?_ | refine hS.ldn rfl ?_ | (refine hS.st rfl rfl ?_; intro _ hS))
            exact .inr ⟨rfl, hnor (by unfold doneR; rw [decide_eq_false ht5]; rfl), hS.nil⟩
      by_cases h3 : t = [112]
      · have hsp := hsp
        rw [h3] at hsp
        have hkk := (keyB_spl (by decide) hsp).1
        repeat (first | refine SemW.run tblOk ?_ | refine jA (by omega) ?_ | refine jB (by omega) ?_ | refine jC (by omega) ?_ | refine jD (by omega) ?_ | refine jE rfl ?_ | refine jF (by omega) ?_ | (refine jG ?_; first | with_reducible (first | refine jH ?_ | refine jI ?_ | refine jJ ?_ | refine jK ?_ | refine jL ?_) | refine jM (by omega) ?_ | refine jN (by omega) ?_ | with_reducible refine jM rfl ?_ | refine jM (by assumption) ?_ | refine jN (by assumption) ?_ | refine jM (by decide) ?_ | refine jN (by decide) ?_) | refine jF (ptr_ok tblOk rfl rfl) ?_ | refine jO (fun _ => by kernel_rfl) ?_ | refine jF (by decide) ?_ | refine hS.ld rfl ?_ | refine hS.ldn rfl ?_ | (refine hS.st rfl rfl ?_; intro _ hS))
        refine SemW.draw tblOk mixed (fun w' => St w T0 [(sb, .cells ⟨[.slice a s.eqs.length ca, .slice b s.fls.length cb, .slice c s.pxs.length cc]⟩ T_api_State (0, 0))] w') [12] [0, 1, 2, 3, 4, 5, 6, 7, 8, 9, 10, 11, 12] (by kernel_rfl) (hS.drew.sub (subS _ (List.Sublist.cons _ (List.Sublist.cons _ (List.Sublist.cons_cons _ (List.nil_sublist _)))))) ?_
        have hF := hS.drew
        have hS : St w T0 [(sb, .cells ⟨[.slice a s.eqs.length ca, .slice b s.fls.length cb, .slice c s.pxs.length cc]⟩ T_api_State (0, 0))] _ := hF.sub (subS _ (List.Sublist.cons _ (List.Sublist.cons _ (List.Sublist.cons_cons _ (List.nil_sublist _)))))
        repeat (first | refine SemW.run tblOk ?_ | refine jA (by omega) ?_ | refine jB (by omega) ?_ | refine jC (by omega) ?_ | refine jD (by omega) ?_ | refine jE rfl ?_ | refine jF (by omega) ?_ | (refine jG ?_; first | with_reducible (first | refine jH ?_ | refine jI ?_ | refine jJ ?_ | refine jK ?_ | refine jL ?_) | refine jM (by omega) ?_ | refine jN (by omega) ?_ | with_reducible refine jM rfl ?_ | refine jM (by assumption) ?_ | refine jN (by assumption) ?_ | refine jM (by decide) ?_ | refine jN (by decide) ?_) | refine jF (ptr_ok tblOk rfl rfl) ?_ | refine jO (fun _ => by kernel_rfl) ?_ | refine jF (by decide) ?_ | refine hS.ldC rfl ?_ | refine hS.ldnC rfl ?_)
        refine Cl.mono (rrpax_spec (s := ⟨v, false⟩) (id := n) (hF.part (L := rrH xr rb ⟨v, false⟩)) (by simp only; omega) (hE.keep hF hT.1 hT.2)) ?_
        rintro _ w5 ⟨rfl, hS'⟩
        have hF := hF.call (L := rrH xr rb ⟨v, false⟩) hS'
        have hrec := rec_px (v := v) hn64
        have hnor := noRec_px (v := v) hn64 hkk
        generalize rPax ⟨v, false⟩ n = y at hF hrec hnor
        obtain ⟨x, t5, bd⟩ := y
        simp only at hF hrec hnor ⊢
        refine Chk.mk (hF.sub (subS _ (List.Sublist.cons _ (List.Sublist.cons _ (List.Sublist.cons_cons _ (List.nil_sublist _)))))) ?_
        refine hF.al ?_
        intro r w6 _ hF
        have hF : St w T0 ((r, .cells ⟨paxC x⟩ T_api_Pax (0, 0)) :: (rrH xr rb ⟨t5, bd⟩ ++ (X1 :: X2 :: stH sb s a b c ca cb cc La Lr Lb Lc))) _ := hF
        refine Chk.mk (hF.sub (List.Sublist.cons _ (subS _ (List.Sublist.cons _ (List.Sublist.cons _ (List.Sublist.cons_cons _ (List.nil_sublist _))))))) ?_
        repeat (first | refine SemW.run tblOk ?_ | refine jA (by omega) ?_ | refine jB (by omega) ?_ | refine jC (by omega) ?_ | refine jD (by omega) ?_ | refine jE rfl ?_ | refine jF (by omega) ?_ | (refine jG ?_; first | with_reducible (first | refine jH ?_ | refine jI ?_ | refine jJ ?_ | refine jK ?_ | refine jL ?_) | refine jM (by omega) ?_ | refine jN (by omega) ?_ | with_reducible refine jM rfl ?_ | refine jM (by assumption) ?_ | refine jN (by assumption) ?_ | refine jM (by decide) ?_ | refine jN (by decide) ?_) | refine jF (ptr_ok tblOk rfl rfl) ?_ | refine jO (fun _ => by kernel_rfl) ?_ | refine jF (by decide) ?_ | refine hS.ldC rfl ?_ | refine hS.ldnC rfl ?_)
        refine St.app (sz := 13) (m := 1) tblOk rfl rfl rfl rfl hF hO.pxs (news := paxC x) rfl (by have := hF.arr (b := r) (T' := []) (by simp); exact this) rfl (by show (_ + _) * 88 ≤ _; omega) (by omega) ?_
        intro a6 c6 L6 w7 hv6 hF
        have e9 : s.pxs.flatMap paxC ++ paxC x = (s.pxs ++ [x]).flatMap paxC := by simp
        have e8 : s.pxs.length + 1 = (s.pxs ++ [x]).length := by simp
        rw [e9, e8] at hv6
        rw [e8]
        refine Chk.mk (hF.sub (List.Sublist.cons _ (subS _ (List.Sublist.cons _ (List.Sublist.cons _ (List.Sublist.cons_cons _ (List.nil_sublist _))))))) ?_
        repeat (first | refine SemW.run tblOk ?_ | refine jA (by omega) ?_ | refine jB (by omega) ?_ | refine jC (by omega) ?_ | refine jD (by omega) ?_ | refine jE rfl ?_ | refine jF (by omega) ?_ | (refine jG ?_; first | with_reducible (first | refine jH ?_ | refine jI ?_ | refine jJ ?_ | refine jK ?_ | refine jL ?_) | refine jM (by omega) ?_ | refine jN (by omega) ?_ | with_reducible refine jM rfl ?_ | refine jM (by assumption) ?_ | refine jN (by assumption) ?_ | refine jM (by decide) ?_ | refine jN (by decide) ?_) | refine jF (ptr_ok tblOk rfl rfl) ?_ | refine jO (fun _ => by kernel_rfl) ?_ | refine jF (by decide) ?_ | refine hS.ldC rfl ?_ | refine hS.ldnC rfl ?_)
        refine hF.st rfl rfl ?_
        intro _ hS
        cases bd with
        | true =>
          repeat (first | refine SemW.run tblOk ?_ | refine jA (by omega) ?_ | refine jB (by omega) ?_ | refine jC (by omega) ?_ | refine jD (by omega) ?_ | refine jE rfl ?_ | refine jF (by omega) ?_ | (refine jG ?_; first | with_reducible (first | refine jH ?_ | refine jI ?_ | refine jJ ?_ | refine jK ?_ | refine jL ?_) | refine jM (by omega) ?_ | refine jN (by omega) ?_ | with_reducible refine jM rfl ?_ | refine jM (by assumption) ?_ | refine jN (by assumption) ?_ | refine jM (by decide) ?_ | refine jN (by decide) ?_) | refine jF (ptr_ok tblOk rfl rfl) ?_ | refine jO (fun _ => by kernel_rfl) ?_ | refine jF (by decide) ?_ | refine hS.ld rfl ?_ | refine hS.ldn rfl ?_ | (refine hS.st rfl rfl ?_; intro _ hS))
          exact .inr ⟨rfl, hnor rfl, hS.nil⟩
        | false =>
          repeat (first | refine SemW.run tblOk ?_ | refine jA (by omega) ?_ | refine jB (by omega) ?_ | refine jC (by omega) ?_ | refine jD (by omega) ?_ | refine jE rfl ?_ | refine jF (by omega) ?_ | (refine jG ?_; first | with_reducible (first | refine jH ?_ | refine jI ?_ | refine jJ ?_ | refine jK ?_ | refine jL ?_) | refine jM (by omega) ?_ | refine jN (by omega) ?_ | with_reducible refine jM rfl ?_ | refine jM (by assumption) ?_ | refine jN (by assumption) ?_ | refine jM (by decide) ?_ | refine jN (by decide) ?_) | refine jF (ptr_ok tblOk rfl rfl) ?_ | refine jO (fun _ => by kernel_rfl) ?_ | refine jF (by decide) ?_ | refine hS.ld rfl ?_ | refine hS.ldn rfl ?_ | (refine hS.st rfl rfl ?_; intro _ hS))
          refine Cl.mono (RDone_spec (t := t5) (hS.part (L := [(rb, rdC t5)]))) ?_
          rintro _ w9 ⟨rfl, hS'⟩
          have hS := hS.call0 hS'
          by_cases ht5 : t5 = []
          · obtain ⟨hro, hre⟩ := hrec (by rw [ht5]; rfl)
            rw [decide_eq_true ht5]
            repeat (first | refine SemW.run tblOk ?_ | refine jA (by omega) ?_ | refine jB (by omega) ?_ | refine jC (by omega) ?_ | refine jD (by omega) ?_ | refine jE rfl ?_ | refine jF (by omega) ?_ | (refine jG ?_; first | with_reducible (first | refine jH ?_ | refine jI ?_ | refine jJ ?_ | refine jK ?_ | refine jL ?_) | refine jM (by omega) ?_ | refine jN (by omega) ?_ | with_reducible refine jM rfl ?_ | refine jM (by assumption) ?_ | refine jN (by assumption) ?_ | refine jM (by decide) ?_ | refine jN (by decide) ?_) | refine jF (ptr_ok tblOk rfl rfl) ?_ | refine jO (fun _ => by kernel_rfl) ?_ | refine jF (by decide) ?_ | refine hS.ld rfl ?_ | refine hS.ldn rfl ?_ | (refine hS.st rfl rfl ?_; intro _ hS))
            have hS := hS.sub (subB (x := (r, _)) (A := rrH xr rb ⟨t5, false⟩) (X1 := X1) (X2 := X2))
            exact .inl ⟨rfl, _, hro, by rw [hre, ← hkk], _, _, _, _, _, _, _, _, _, _, (⟨hO.eqs, hO.fls, hv6⟩ : StOwn (addR s (.px x)) a b a6 ca cb c6 La Lr Lb L6), hS⟩
          · rw [decide_eq_false ht5]
            repeat (first | refine SemW.run tblOk ?_ | refine jA (by omega) ?_ | refine jB (by omega) ?_ | refine jC (by omega) ?_ | refine jD (by omega) ?_ | refine jE rfl ?_ | refine jF (by omega) ?_ | (refine jG ?_; first | with_reducible (first | refine jH ?_ | refine jI ?_ | refine jJ ?_ | refine jK ?_ | refine jL ?_) | refine jM (by omega) ?_ | refine jN (by omega) ?_ | with_reducible refine jM rfl ?_ | refine jM (by assumption) ?_ | refine jN (by assumption) ?_ | refine jM (by decide) ?_ | refine jN (by decide) ?_) | refine jF (ptr_ok tblOk rfl rfl) ?_ | refine jO (fun _ => by kernel_rfl) ?_ | refine jF (by decide) ?_ | refine hS.ld rfl ?_ | refine hS.ldn rfl ?_ | (refine hS.st rfl rfl ?_; intro _ hS))
            exact .inr ⟨rfl, hnor (by unfold doneR; rw [decide_eq_false ht5]; rfl), hS.nil⟩
      · repeat (first | refine SemW.run tblOk ?_ | refine jA (by omega) ?_ | refine jB (by omega) ?_ | refine jC (by omega) ?_ | refine jD (by omega) ?_ | refine jE rfl ?_ | refine jF (by omega) ?_ | (refine jG ?_; first | with_reducible (first | refine jH ?_ | refine jI ?_ | refine jJ ?_ | refine jK ?_ | refine jL ?_) | refine jM (by omega) ?_ | refine jN (by omega) ?_ | with_reducible refine jM rfl ?_ | refine jM (by assumption) ?_ | refine jN (by assumption) ?_ | refine jM (by decide) ?_ | refine jN (by decide) ?_) | refine jF (ptr_ok tblOk rfl rfl) ?_ | refine jO (fun _ => by kernel_rfl) ?_ | refine jF (by decide) ?_ | refine hS.ld rfl ?_ | refine hS.ldn rfl ?_ | (refine hS.st rfl rfl ?_; intro _ hS))
        refine .inr ⟨rfl, noRec_key fun qs hqs c' n' hc he => ?_, hS.nil⟩
        subst he
        have e := spl_inj hqs hsp
        simp only [List.cons.injEq, PartM.text.injEq] at e
        rcases hc with rfl | rfl | rfl
        · exact h1 e.1.symm
        · exact h2 e.1.symm
        · exact h3 e.1.symm
end Go.Proofs.YthpmmfapolcaiaaGreatDoor

/- Plain: records in order. -/
namespace Go.Proofs.YthpmmfapolcaiaaGreatDoor
open Go Go.Eng Go.Proofs
def LessR (r q : RecM) : Prop := Op.bytesLess r.1 q.1 = true
theorem Rises.pairwise {l : List Int} (h : Rises l) : l.Pairwise (· < ·) := by
  rw [List.pairwise_iff_getElem]
  intro i j hi hj hij
  induction j with
  | zero => omega
  | succ j ih =>
    by_cases hk : i = j
    · subst hk; exact h i hj
    · exact Int.lt_trans (ih (by omega) (by omega)) (h j hj)
theorem rises_keys {α : Type} {l : List α} {id : α → Int} {f : α → RecM} {c : UInt8} (h : Rises (l.map id)) (hid : ∀ x ∈ l, i64b (id x)) (hf : ∀ x, (f x).1 = keyB c (id x)) : (l.map f).Pairwise LessR := by
  have hp := h.pairwise
  rw [List.pairwise_map] at hp ⊢
  refine hp.imp_of_mem fun {x y} hx hy hxy => ?_
  unfold LessR
  rw [hf, hf, key_less c (hid x hx) (hid y hy)]
  exact decide_eq_true hxy
structure IdsOk (s : StateM) : Prop where
  eqs : ∀ x ∈ s.eqs, i64b x.id
  fls : ∀ x ∈ s.fls, i64b x.id
  pxs : ∀ x ∈ s.pxs, i64b x.id
theorem StateAt.ids {w : World} {s : StateM} {a b c : Option Addr} {ca cb cc : Nat} (h : StateAt w s a b c ca cb cc) : IdsOk s :=
  ⟨fun _ hx => by obtain ⟨_, _, _, h1, _⟩ := h.eqs.mem hx; exact h1, fun _ hx => by obtain ⟨_, _, h1⟩ := h.fls.mem hx; exact h1.id, fun _ hx => by obtain ⟨_, _, h1⟩ := h.pxs.mem hx; exact h1.id⟩
theorem recs_sorted {s : StateM} (h : InForm s) (hi : IdsOk s) : (recs s).Pairwise LessR := by
  unfold recs
  rw [List.pairwise_append, List.pairwise_append]
  refine ⟨⟨rises_keys (c := 101) h.eqs hi.eqs (fun _ => rfl), rises_keys (c := 102) h.fls hi.fls (fun _ => rfl), ?_⟩, rises_keys (c := 112) h.pxs hi.pxs (fun _ => rfl), ?_⟩
  · intro r hr q hq
    obtain ⟨x, -, rfl⟩ := List.mem_map.1 hr
    obtain ⟨y, -, rfl⟩ := List.mem_map.1 hq
    exact key_letters (by decide) _ _
  · intro r hr q hq
    obtain ⟨y, -, rfl⟩ := List.mem_map.1 hq
    rcases List.mem_append.1 hr with hr | hr
    · obtain ⟨x, -, rfl⟩ := List.mem_map.1 hr
      exact key_letters (by decide) _ _
    · obtain ⟨x, -, rfl⟩ := List.mem_map.1 hr
      exact key_letters (by decide) _ _
end Go.Proofs.YthpmmfapolcaiaaGreatDoor

/- Plain laws of sorting in place: rows of elements, swaps, splits. -/
namespace Go.Srt
variable {α : Type} (lt : α → α → Bool)
/-- In order: none is less than one ahead of it. -/
def Srt (l : List α) : Prop := l.Pairwise fun x y => lt y x = false
structure Ord : Prop where
  asym : ∀ x y, lt x y = true → lt y x = false
  trans : ∀ x y z, lt y x = false → lt z y = false → lt z x = false
variable {lt}
theorem Srt.app {a b : List α} (ha : Srt lt a) (hb : Srt lt b) (h : ∀ x ∈ a, ∀ y ∈ b, lt y x = false) : Srt lt (a ++ b) := List.pairwise_append.2 ⟨ha, hb, h⟩
theorem Srt.left {a b : List α} (h : Srt lt (a ++ b)) : Srt lt a := (List.pairwise_append.1 h).1
theorem Srt.right {a b : List α} (h : Srt lt (a ++ b)) : Srt lt b := (List.pairwise_append.1 h).2.1
theorem Srt.cross {a b : List α} (h : Srt lt (a ++ b)) : ∀ x ∈ a, ∀ y ∈ b, lt y x = false := (List.pairwise_append.1 h).2.2
theorem Ord.irrefl (h : Ord lt) (x : α) : lt x x = false := by
  cases e : lt x x with
  | false => rfl
  | true => have := h.asym x x e; rw [e] at this; exact this
theorem Srt.at {l : List α} (h : Srt lt l) {i j : Nat} (hi : i < l.length) (hj : j < l.length) (hij : i < j) : lt l[j] l[i] = false := (List.pairwise_iff_getElem.1 h) i j hi hj hij
/-- Two elements change places. -/
def swp (l : List α) (i j : Nat) (hi : i < l.length) (hj : j < l.length) : List α := (l.set i l[j]).set j l[i]
theorem swp_len (l : List α) (i j : Nat) (hi : i < l.length) (hj : j < l.length) : (swp l i j hi hj).length = l.length := by simp [swp]
theorem swp_mid (P Q S : List α) (x y : α) (i j : Nat) (hi : i < (P ++ x :: Q ++ y :: S).length) (hj : j < (P ++ x :: Q ++ y :: S).length) (e1 : i = P.length) (e2 : j = P.length + 1 + Q.length) :
    swp (P ++ x :: Q ++ y :: S) i j hi hj = P ++ y :: Q ++ x :: S := by
  subst e1 e2
  have h1 : (P ++ x :: Q ++ y :: S)[P.length]? = some x := by simp
  have h2 : (P ++ x :: Q ++ y :: S)[P.length + 1 + Q.length]? = some y := by
    rw [List.getElem?_append_right (by simp; omega)]
    have : P.length + 1 + Q.length - (P ++ x :: Q).length = 0 := by simp; omega
    rw [this]; rfl
  rw [List.getElem?_eq_getElem hi, Option.some.injEq] at h1
  rw [List.getElem?_eq_getElem hj, Option.some.injEq] at h2
  unfold swp
  rw [h1, h2]
  have e3 : (P ++ x :: Q ++ y :: S).set P.length y = P ++ y :: Q ++ y :: S := by
    rw [List.append_assoc, List.set_append_right _ _ (Nat.le_refl _), Nat.sub_self]; simp
  rw [e3]
  have e4 : P.length + 1 + Q.length = (P ++ y :: Q).length := by simp; omega
  rw [e4, List.set_append_right _ _ (Nat.le_refl _), Nat.sub_self]; rfl
theorem swp_mid' (P Q S : List α) (x y : α) (i j : Nat) (hi : i < (P ++ x :: Q ++ y :: S).length) (hj : j < (P ++ x :: Q ++ y :: S).length) (e1 : j = P.length) (e2 : i = P.length + 1 + Q.length) :
    swp (P ++ x :: Q ++ y :: S) i j hi hj = P ++ y :: Q ++ x :: S := by
  rw [← swp_mid P Q S x y j i hj hi e1 e2]
  unfold swp
  by_cases h : i = j
  · subst h; rfl
  · rw [List.set_comm _ _ (h)]
/-- Two stretches that are changing places, k elements of each so far. -/
def rg (P A Q B S : List α) (k : Nat) : List α := P ++ (B.take k ++ A.drop k) ++ Q ++ (A.take k ++ B.drop k) ++ S
section
variable {P A Q B S : List α} {k a b : Nat}
theorem rg_zero : rg P A Q B S 0 = P ++ A ++ Q ++ B ++ S := by simp [rg]
theorem rg_full (hAB : A.length = B.length) (hk : k = A.length) : rg P A Q B S k = P ++ B ++ Q ++ A ++ S := by
  subst hk
  have h : B.take A.length = B := by rw [hAB]; exact List.take_length
  have h2 : B.drop A.length = [] := by rw [hAB]; exact List.drop_length
  unfold rg
  rw [h, h2]; simp
theorem rg_len (hAB : A.length = B.length) : (rg P A Q B S k).length = P.length + A.length + Q.length + B.length + S.length := by
  simp only [rg, List.length_append, List.length_take, List.length_drop]; omega
theorem rg_form (hAB : A.length = B.length) (hk : k < A.length) : ∃ P' Q' S' x y, rg P A Q B S k = P' ++ x :: Q' ++ y :: S' ∧ rg P A Q B S (k + 1) = P' ++ y :: Q' ++ x :: S' ∧ P'.length = P.length + k ∧ P'.length + 1 + Q'.length = P.length + A.length + Q.length + k := by
  refine ⟨P ++ B.take k, A.drop (k + 1) ++ Q ++ A.take k, B.drop (k + 1) ++ S, A[k], B[k]'(by omega), ?_, ?_, ?_, ?_⟩
  · have h1 := List.drop_eq_getElem_cons hk
    have h2 := List.drop_eq_getElem_cons (l := B) (i := k) (by omega)
    unfold rg
    rw [h1, h2]
    simp only [List.append_assoc, List.cons_append]
  · have h1 := List.take_succ_eq_append_getElem hk
    have h2 := List.take_succ_eq_append_getElem (l := B) (i := k) (by omega)
    unfold rg
    rw [h1, h2]
    simp only [List.append_assoc, List.cons_append, List.nil_append]
  · simp only [List.length_append, List.length_take]; omega
  · simp only [List.length_append, List.length_take, List.length_drop]; omega
theorem rg_swp (hAB : A.length = B.length) (hk : k < A.length) (hi : a < (rg P A Q B S k).length) (hj : b < (rg P A Q B S k).length) (e1 : a = P.length + k) (e2 : b = P.length + A.length + Q.length + k) : ((rg P A Q B S k).set a (rg P A Q B S k)[b]).set b (rg P A Q B S k)[a] = rg P A Q B S (k + 1) := by
  obtain ⟨P', Q', S', x, y, h1, h2, h3, h4⟩ := rg_form (P := P) (Q := Q) (S := S) hAB hk
  rw [h2]
  simp only [h1] at hi hj ⊢
  exact swp_mid P' Q' S' x y a b hi hj (by omega) (by omega)
end
theorem swp_adj (P T : List α) (u x : α) (n : Nat) (h : n = P.length) : ((P ++ u :: x :: T).set (n + 1) u).set n x = P ++ x :: u :: T := by
  subst h
  rw [List.set_append_right _ _ (by omega), List.set_append_right _ _ (by omega)]
  have e : P.length + 1 - P.length = 1 := by omega
  rw [e, Nat.sub_self]; rfl
theorem swp_adj' (P T : List α) (u x : α) (n : Nat) (h : n = P.length) : ((P ++ u :: x :: T).set n x).set (n + 1) u = P ++ x :: u :: T := by
  subst h
  rw [List.set_append_right _ _ (by omega), List.set_append_right _ _ (by omega)]
  have e : P.length + 1 - P.length = 1 := by omega
  rw [e, Nat.sub_self]; rfl
theorem get_adj (P T : List α) (u x : α) (n : Nat) (h : n < (P ++ u :: x :: T).length) (e : n = P.length + 1) : (P ++ u :: x :: T)[n] = x := by
  subst e; simp
/-- The list's middle. -/
theorem cut (l : List α) (a b : Nat) (hab : a ≤ b) (hb : b ≤ l.length) : ∃ P M S, l = P ++ M ++ S ∧ P.length = a ∧ M.length = b - a := by
  refine ⟨l.take a, (l.drop a).take (b - a), l.drop b, ?_, by simp; omega, by simp; omega⟩
  have h1 := List.take_append_drop a l
  have h2 := List.take_append_drop (b - a) (l.drop a)
  rw [List.drop_drop, show a + (b - a) = b by omega] at h2
  rw [List.append_assoc, h2, h1]
theorem cut_at {l : List α} {k : Nat} (h : k < l.length) : ∃ P x S, l = P ++ x :: S ∧ P.length = k ∧ l[k] = x := ⟨l.take k, l[k], l.drop (k + 1), by rw [← List.drop_eq_getElem_cons h, List.take_append_drop], by simp; omega, rfl⟩
theorem get_mid (P S : List α) (x : α) (k : Nat) (h : k < (P ++ x :: S).length) (e : k = P.length) : (P ++ x :: S)[k] = x := by
  subst e; simp
/-- One more taken into the ordered part: x, that stands behind U and ahead of V. -/
theorem insert_sorted (hO : Ord lt) {U V : List α} {x : α} (h : Srt lt (U ++ V)) (hV : ∀ v ∈ V, lt x v = true) (hU : ∀ u, U.getLast? = some u → lt x u = false) : Srt lt (U ++ x :: V) := by
  have hU' : ∀ u ∈ U, lt x u = false := by
    intro u hu
    cases hl : U.getLast? with
    | none => rw [List.getLast?_eq_none_iff] at hl; subst hl; cases hu
    | some z =>
      have hz := hU z hl
      obtain ⟨W, rfl⟩ : ∃ W, U = W ++ [z] := List.getLast?_eq_some_iff.1 hl
      rcases List.mem_append.1 hu with hu | hu
      · have := h.left.cross u hu z (by simp)
        exact hO.trans u z x this hz
      · rw [List.mem_singleton] at hu; subst hu; exact hz
  refine Srt.app h.left (List.pairwise_cons.2 ⟨fun v hv => hO.asym x v (hV v hv), h.right⟩) fun u hu y hy => ?_
  rcases List.mem_cons.1 hy with rfl | hy
  · exact hU' u hu
  · exact h.cross u hu y hy
/-- The same when what stands ahead is less, and what stands behind is no less. -/
theorem insert_sorted' (hO : Ord lt) {U V : List α} {x : α} (h : Srt lt (U ++ V)) (hU : ∀ u, U.getLast? = some u → lt u x = true) (hV : ∀ v, V.head? = some v → lt v x = false) : Srt lt (U ++ x :: V) := by
  have hU' : ∀ u ∈ U, lt x u = false := by
    intro u hu
    cases hl : U.getLast? with
    | none => rw [List.getLast?_eq_none_iff] at hl; subst hl; cases hu
    | some z =>
      have hz := hO.asym _ _ (hU z hl)
      obtain ⟨W, rfl⟩ : ∃ W, U = W ++ [z] := List.getLast?_eq_some_iff.1 hl
      rcases List.mem_append.1 hu with hu | hu
      · have := h.left.cross u hu z (by simp)
        exact hO.trans u z x this hz
      · rw [List.mem_singleton] at hu; subst hu; exact hz
  have hV' : ∀ v ∈ V, lt v x = false := by
    intro v hv
    cases V with
    | nil => cases hv
    | cons z V =>
      have hz := hV z rfl
      rcases List.mem_cons.1 hv with rfl | hv
      · exact hz
      · exact hO.trans x z v hz ((List.pairwise_cons.1 h.right).1 v hv)
  refine Srt.app h.left (List.pairwise_cons.2 ⟨hV', h.right⟩) fun u hu y hy => ?_
  rcases List.mem_cons.1 hy with rfl | hy
  · exact hU' u hu
  · exact h.cross u hu y hy
/-- Behind what is no greater, ahead of what is greater. -/
theorem insert_sortedR (hO : Ord lt) {U V : List α} {x : α} (h : Srt lt (U ++ V)) (hU : ∀ u, U.getLast? = some u → lt x u = false) (hV : ∀ v, V.head? = some v → lt x v = true) : Srt lt (U ++ x :: V) := by
  refine insert_sorted hO h (fun v hv => ?_) hU
  cases V with
  | nil => cases hv
  | cons z V =>
    have hz := hV z rfl
    rcases List.mem_cons.1 hv with rfl | hv
    · exact hz
    · have h1 := (List.pairwise_cons.1 h.right).1 v hv
      cases hxv : lt x v with
      | true => rfl
      | false =>
        have := hO.trans z v x h1 hxv
        rw [hz] at this; cases this
theorem take_last {l : List α} {k : Nat} (h : k < l.length) : (l.take (k + 1)).getLast? = some l[k] := by
  rw [List.take_succ_eq_append_getElem h, List.getLast?_concat]
theorem drop_head {l : List α} {k : Nat} (h : k < l.length) : (l.drop k).head? = some l[k] := by
  rw [List.drop_eq_getElem_cons h]; rfl
/-- Merging's halves are in order. -/
theorem split_ok (hO : Ord lt) {A1 A2 B1 B2 : List α} (hA : Srt lt (A1 ++ A2)) (hB : Srt lt (B1 ++ B2)) (h1 : ∀ x y, A1.getLast? = some x → B2.head? = some y → lt y x = false) (h2 : ∀ x y, B1.getLast? = some x → A2.head? = some y → lt x y = true) :
    ∀ x ∈ A1 ++ B1, ∀ y ∈ A2 ++ B2, lt y x = false := by
  have last : ∀ {U : List α} {x : α}, Srt lt U → x ∈ U → ∃ z, U.getLast? = some z ∧ lt z x = false := by
    intro U x hU hx
    cases hl : U.getLast? with
    | none => rw [List.getLast?_eq_none_iff] at hl; subst hl; cases hx
    | some z =>
      refine ⟨z, rfl, ?_⟩
      obtain ⟨W, rfl⟩ : ∃ W, U = W ++ [z] := List.getLast?_eq_some_iff.1 hl
      rcases List.mem_append.1 hx with hx | hx
      · exact hU.cross x hx z (by simp)
      · rw [List.mem_singleton] at hx; subst hx; exact hO.irrefl _
  have head : ∀ {U : List α} {y : α}, Srt lt U → y ∈ U → ∃ z, U.head? = some z ∧ lt y z = false := by
    intro U y hU hy
    cases U with
    | nil => cases hy
    | cons z U =>
      refine ⟨z, rfl, ?_⟩
      rcases List.mem_cons.1 hy with rfl | hy
      · exact hO.irrefl _
      · exact (List.pairwise_cons.1 hU).1 y hy
  intro x hx y hy
  rcases List.mem_append.1 hx with hx | hx <;> rcases List.mem_append.1 hy with hy | hy
  · exact hA.cross x hx y hy
  · obtain ⟨z, e1, l1⟩ := last hA.left hx
    obtain ⟨u, e2, l2⟩ := head hB.right hy
    exact hO.trans x u y (hO.trans x z u l1 (h1 z u e1 e2)) l2
  · obtain ⟨z, e1, l1⟩ := last hB.left hx
    obtain ⟨u, e2, l2⟩ := head hA.right hy
    exact hO.trans x u y (hO.trans x z u l1 (hO.asym z u (h2 z u e1 e2))) l2
  · exact hB.cross x hx y hy
theorem noRot {P A1 A2 B1 B2 S : List α} (h : A2.length = 0 ∨ B1.length = 0) : P ++ (A1 ++ A2) ++ (B1 ++ B2) ++ S = P ++ (A1 ++ B1) ++ (A2 ++ B2) ++ S := by
  rcases h with h | h <;> rw [List.length_eq_zero_iff.1 h] <;> simp
theorem oneSrt {A1 A2 B1 B2 : List α} (h : A1.length = 0 ∨ B1.length = 0) (hA : Srt lt (A1 ++ A2)) (hB : Srt lt (B1 ++ B2)) : Srt lt (A1 ++ B1) := by
  rcases h with h | h <;> rw [List.length_eq_zero_iff.1 h]
  · exact hB.left
  · rw [List.append_nil]; exact hA.left
theorem oneSrt' {A1 A2 B1 B2 : List α} (h : A2.length = 0 ∨ B2.length = 0) (hA : Srt lt (A1 ++ A2)) (hB : Srt lt (B1 ++ B2)) : Srt lt (A2 ++ B2) := by
  rcases h with h | h <;> rw [List.length_eq_zero_iff.1 h]
  · exact hB.right
  · rw [List.append_nil]; exact hA.right
theorem halves_perm {A1 A2 B1 B2 L R : List α} (h1 : L.Perm (A1 ++ B1)) (h2 : R.Perm (A2 ++ B2)) : (L ++ R).Perm ((A1 ++ A2) ++ (B1 ++ B2)) := by
  refine (h1.append h2).trans ?_
  rw [List.append_assoc, List.append_assoc]
  refine List.Perm.append_left A1 ?_
  rw [← List.append_assoc, ← List.append_assoc]
  exact List.Perm.append_right B2 List.perm_append_comm
/-- What a merge's search knows of its two ends. -/
def EdgeL (lt : α → α → Bool) (A B : List α) (d s s0 : Nat) : Prop := s = s0 ∨ ∃ x y, A[s - 1]? = some x ∧ B[d - s]? = some y ∧ lt y x = false
def EdgeR (lt : α → α → Bool) (A B : List α) (d r r0 : Nat) : Prop := r = r0 ∨ ∃ x y, A[r]? = some x ∧ B[d - r - 1]? = some y ∧ lt y x = true
/-- Blocks of n elements, each in order. -/
def Full (lt : α → α → Bool) (n : Nat) (bs : List (List α)) : Prop := ∀ x ∈ bs, x.length = n ∧ Srt lt x
theorem Full.snoc {n : Nat} {bs : List (List α)} {x : List α} (h : Full lt n bs) (h1 : x.length = n) (h2 : Srt lt x) : Full lt n (bs ++ [x]) := by
  intro y hy
  rcases List.mem_append.1 hy with hy | hy
  · exact h y hy
  · rw [List.mem_singleton] at hy; subst hy; exact ⟨h1, h2⟩
theorem Full.hd {n : Nat} {x : List α} {bs : List (List α)} (h : Full lt n (x :: bs)) : x.length = n ∧ Srt lt x := h x (by simp)
theorem Full.tl {n : Nat} {x : List α} {bs : List (List α)} (h : Full lt n (x :: bs)) : Full lt n bs := fun y hy => h y (by simp [hy])
/-- Blocks of n, and a rest that is less than one. -/
def Cks (lt : α → α → Bool) (n : Nat) (l : List α) : Prop := ∃ bs r, l = bs.flatten ++ r ∧ Full lt n bs ∧ r.length < n ∧ Srt lt r
theorem Cks.all {n : Nat} {l : List α} (h : Cks lt n l) (hn : l.length ≤ n) : Srt lt l := by
  obtain ⟨bs, r, rfl, hf, hr, hs⟩ := h
  cases bs with
  | nil => exact hs
  | cons x bs =>
    have h1 := hf.hd
    rw [List.flatten_cons, List.length_append, List.length_append] at hn
    have e1 : bs.flatten = [] := List.length_eq_zero_iff.1 (by omega)
    have e2 : r = [] := List.length_eq_zero_iff.1 (by omega)
    rw [List.flatten_cons, e1, e2, List.append_nil, List.append_nil]
    exact h1.2
theorem Srt.nil : Srt lt ([] : List α) := List.Pairwise.nil
theorem srt_unique (hA : ∀ x y, lt x y = false → lt y x = false → x = y) : ∀ {l m : List α}, Srt lt l → Srt lt m → l.Perm m → l = m
  | [], m, _, _, hp => (List.nil_perm.1 hp).symm
  | x :: l, [], _, _, hp => by have := List.perm_nil.1 hp; cases this
  | x :: l, y :: m, hl, hm, hp => by
    have hl' := List.pairwise_cons.1 hl
    have hm' := List.pairwise_cons.1 hm
    have hxy : x = y := by
      rcases List.mem_cons.1 (hp.mem_iff.1 (List.mem_cons_self (a := x) (l := l))) with e | e
      · exact e
      · rcases List.mem_cons.1 (hp.mem_iff.2 (List.mem_cons_self (a := y) (l := m))) with e' | e'
        · exact e'.symm
        · exact hA x y (hm'.1 x e) (hl'.1 y e')
    subst hxy
    rw [srt_unique hA hl'.2 hm'.2 hp.cons_inv]
/-- An element put into its place, from behind: ahead of all that are greater. -/
def ins (lt : α → α → Bool) (l : List α) (x : α) : List α := (l.takeWhile fun y => !lt x y) ++ x :: (l.dropWhile fun y => !lt x y)
theorem ins_perm (l : List α) (x : α) : (ins lt l x).Perm (x :: l) := by
  unfold ins
  refine List.perm_middle.trans (List.Perm.cons _ ?_)
  rw [List.takeWhile_append_dropWhile]
theorem ins_srt (hO : Ord lt) {l : List α} (hl : Srt lt l) (x : α) : Srt lt (ins lt l x) := by
  unfold ins
  have h := List.takeWhile_append_dropWhile (p := fun y => !lt x y) (l := l)
  refine insert_sorted hO (by rw [h]; exact hl) ?_ ?_
  · intro v hv
    have hd : Srt lt (l.dropWhile fun y => !lt x y) := by rw [← h] at hl; exact hl.right
    cases hdw : (l.dropWhile fun y => !lt x y) with
    | nil => rw [hdw] at hv; cases hv
    | cons z s =>
      have hz : lt x z = true := by
        have := List.head_dropWhile_not (p := fun y => !lt x y) (l := l) (by rw [hdw]; simp)
        simp only [hdw, List.head_cons] at this
        simpa using this
      rw [hdw] at hv hd
      rcases List.mem_cons.1 hv with rfl | hv
      · exact hz
      · have h1 := (List.pairwise_cons.1 hd).1 v hv
        cases hxv : lt x v with
        | true => rfl
        | false =>
          have := hO.trans z v x h1 hxv
          rw [hz] at this; cases this
  · intro u hu
    have := List.mem_of_getLast? hu
    have h2 := List.all_eq_true.1 (List.all_takeWhile (p := fun y => !lt x y) (l := l)) u this
    simpa using h2
end Go.Srt
