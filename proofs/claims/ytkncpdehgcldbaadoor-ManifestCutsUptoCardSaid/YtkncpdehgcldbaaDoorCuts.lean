/- A manifest's text that is cut off; tarmaclaw11.ManifestCuts. -/
import Derived.Test.YtkncpdehgcldbaaDoorSeal
import Derived.Test.YtkncpdehgcldbaaDoorRead11
namespace Go.Proofs.YtkncpdehgcldbaaDoor
open Go Go.Eng Go.Proofs Go.Srt
theorem num4_appC (l u : Bytes) (h : 4 ≤ l.length) : num4 (l ++ u) = num4 l := by
  rw [← num4_take (l ++ u) 4 (Nat.le_refl _), List.take_append_of_le_length h, num4_take l 4 (Nat.le_refl _)]
/-- A frame that is whole stays, whatever comes behind. -/
theorem firstM_appC {t : Bytes} {k : Nat} (u : Bytes) (h : (firstM t k).2.2 = 0) : firstM (t ++ u) k = firstM t k := by
  obtain ⟨h1, h2, h3, h4⟩ := firstM_good h
  rw [h4]
  have hdl : (t.drop k).length = t.length - k := List.length_drop
  have hd : (t ++ u).drop k = t.drop k ++ u := List.drop_append_of_le_length (by omega)
  have e1 : num4 (t.drop k ++ u) = num4 (t.drop k) := num4_appC _ _ (by omega)
  have e2 : (t.drop k ++ u).take 4 = (t.drop k).take 4 := List.take_append_of_le_length (by omega)
  have e3 : (t.drop k ++ u).take (8 + num4 (t.drop k)) = (t.drop k).take (8 + num4 (t.drop k)) := List.take_append_of_le_length (by omega)
  have e4 : num4 ((t.drop k ++ u).drop 4) = num4 ((t.drop k).drop 4) := by
    rw [List.drop_append_of_le_length (by omega), num4_appC _ _ (by rw [List.length_drop]; omega)]
  unfold firstM
  rw [List.length_append, if_neg (by omega), hd, e1, e2, e3, e4, List.length_append, if_neg (by omega), if_pos h3]
theorem num4_be4C (n : Nat) (l : Bytes) (hn : n < 4294967296) : num4 (be4 n ++ l) = n := by
  rw [num4_appC _ _ (by simp [be4]), num4_be4 n hn]
theorem firstM_frameC (t p : Bytes) (hp : p.length ≤ 65536) : firstM (t ++ frameB p) t.length = (p, (t ++ frameB p).length, 0) := by
  have hfl := frameB_len p
  have hc := (crcN_eq [be4 p.length, p]).2
  have hb : (be4 p.length).length = 4 := rfl
  have hd : (t ++ frameB p).drop t.length = frameB p := List.drop_left
  have e1 : num4 (frameB p) = p.length := by unfold frameB; rw [List.append_assoc, num4_be4C _ _ (by omega)]
  have e2 : (frameB p).take 4 = be4 p.length := by unfold frameB; rw [List.append_assoc]; rfl
  have e4 : (frameB p).drop 4 = be4 (crcN [be4 p.length, p]) ++ p := by unfold frameB; rw [List.append_assoc]; rfl
  have e3 : ((frameB p).take (8 + p.length)).drop 8 = p := by
    rw [List.take_of_length_le (by omega)]; rfl
  unfold firstM
  rw [if_neg (by rw [List.length_append]; omega), hd, e1, if_neg (by omega), e2, e3, e4, num4_be4C _ _ hc, if_pos rfl, List.length_append, hfl]
  simp only [Prod.mk.injEq, true_and, and_true]; omega
/-- The versions behind a text's edits, and where these end. -/
structure Chain (t : Bytes) (ch : List (VM × Nat)) : Prop where
  zero : ch[0]? = some (zeroV, 0)
  step : ∀ k x y, ch[k]? = some x → ch[k + 1]? = some y → next t x.1 x.2 = some y
  last : ∀ k x, ch[k]? = some x → k + 1 = ch.length → x.2 = t.length
theorem Chain.new : Chain [] [(zeroV, 0)] := ⟨rfl, fun k x y h1 h2 => by simp at h2, fun k x h1 h2 => by
  have : k = 0 := by simpa using h2
  subst this
  cases h1; rfl⟩
theorem next_first {t : Bytes} {v : VM} {k : Nat} {y : VM × Nat} (h : next t v k = some y) : (firstM t k).2.2 = 0 ∧ (firstM t k).2.1 = y.2 := by
  unfold next at h
  split at h
  · next h0 =>
    refine ⟨h0, ?_⟩
    split at h
    · cases h
    · split at h
      · cases h
      · cases h; rfl
  · cases h
theorem next_of {t u : Bytes} {v : VM} {k : Nat} (h : firstM t k = firstM u k) : next t v k = next u v k := by
  unfold next; rw [h]
theorem Chain.push {t : Bytes} {ch : List (VM × Nat)} (h : Chain t ch) {v v' : VM} {e : EM} {n : Nat} (hl : ch[n]? = some (v, t.length)) (hn : n + 1 = ch.length) (ha : applyM v e = some v') (hd : decodeM (editB e) = some e) (hp : (editB e).length ≤ 65536) :
    Chain (t ++ frameB (editB e)) (ch ++ [(v', (t ++ frameB (editB e)).length)]) := by
  refine ⟨?_, ?_, ?_⟩
  · rw [List.getElem?_append_left (by omega)]; exact h.zero
  · intro k x y hx hy
    have hky : k + 1 < ch.length + 1 := by simpa using (List.getElem?_eq_some_iff.1 hy).1
    rw [List.getElem?_append_left (by omega)] at hx
    by_cases hk : k + 1 < ch.length
    · rw [List.getElem?_append_left hk] at hy
      have hs := h.step k x y hx hy
      rw [next_of (firstM_appC _ (next_first hs).1)]; exact hs
    · have hke : k = n := by omega
      subst hke
      rw [List.getElem?_append_right (by omega), hn, Nat.sub_self] at hy
      rw [hl] at hx
      cases hx; cases hy
      show next _ v t.length = _
      unfold next
      rw [firstM_frameC t _ hp]
      simp only [if_true, hd, ha]
  · intro k x hx hk
    rw [List.length_append, List.length_singleton] at hk
    rw [List.getElem?_append_right (by omega), show k - ch.length = 0 by omega] at hx
    cases hx; rfl
theorem Chain.upto {t : Bytes} {ch : List (VM × Nat)} (h : Chain t ch) (n : Nat) : ∀ (j : Nat) (x : VM × Nat), ch[j]? = some x → x.2 ≤ n → ∀ X, Rd (t.take n) x.1 x.2 X → Rd (t.take n) zeroV 0 X
  | 0, x, hx, _, X, hX => by rw [h.zero] at hx; cases hx; exact hX
  | j + 1, y, hy, hn, X, hX => by
    obtain ⟨x, hx⟩ : ∃ x, ch[j]? = some x := by
      have := (List.getElem?_eq_some_iff.1 hy).1
      exact ⟨_, List.getElem?_eq_getElem (by omega)⟩
    have hs := h.step j x y hx hy
    have he := next_end (v' := y.1) (k' := y.2) hs
    obtain ⟨f1, f2⟩ := next_first hs
    refine h.upto n j x hx (by omega) X (.step (v' := y.1) (k' := y.2) ?_ hX)
    rw [next_of (firstM_take f1 (by omega))]; exact hs
/-- What is left of a text that is cut off comes to the last version that ends ahead of the cut. -/
theorem Chain.cut {t : Bytes} {ch : List (VM × Nat)} (h : Chain t ch) {n k : Nat} (hn : n ≤ t.length) {x : VM × Nat} (hx : ch[k]? = some x) (hle : x.2 ≤ n) (hgt : ∀ y, ch[k + 1]? = some y → n < y.2) : Rd (t.take n) zeroV 0 x := by
  refine h.upto n k x hx hle x (.stop ?_)
  unfold next
  refine if_neg fun h0 => ?_
  have h2 := firstM_next _ _ h0
  rw [List.length_take] at h2
  have e := firstM_appC (t.drop n) h0
  rw [List.take_append_drop] at e
  cases hy : ch[k + 1]? with
  | some y =>
    have hs := h.step k x y hx hy
    have := (next_first hs).2
    have := hgt y hy
    rw [e] at *
    omega
  | none =>
    have hk := (List.getElem?_eq_some_iff.1 hx).1
    have hk2 := List.getElem?_eq_none_iff.1 hy
    have := h.last k x hx (by omega)
    omega
open Go.ChangeShapes Go.WideShapes Go.ChangeAt Go.RowKit
/-- Edits that are handed in: their numbers are ints. -/
def REditO : CellR EM := fun W cs e => ∃ a b ca cb, cs = editC a b ca cb e ∧ EditAt W a b ca cb e ∧ OkE e
theorem open_editsO {H : Type} {enc : TypeId × Value → H} {W : World} {xa : Option Addr} {xl xc : Nat} {d : DataW H} {p : List MemPlace} (hd : DataW.Trod enc Tryd.prog W 0 (fun _ => true) true T_Sl_api_Edit (.slice xa xl xc) d p) (hu : Rows.uptoBulk d ≤ 1048576) :
    ∃ (es : List EM) (a : Option Addr) (ca : Nat), Value.slice xa xl xc = .slice a es.length ca ∧ RSl 5 REditO W [.slice a es.length ca] es ∧ (es.map fun e => 3 * e.add.length + e.del.length + 6).sum + 1 ≤ Rows.uptoBulk d := by
  obtain ⟨es, h1, hb⟩ := Trod.out hd (Opens.slice Tryd.underlying25 (show Tryd.prog.cellsOf T_api_Edit = 5 by kernel_rfl) (by decide) opens_edit)
  have hle : ∀ (l : List EM) (e : EM), e ∈ l → 3 * e.add.length + e.del.length + 6 ≤ (l.map fun e => 3 * e.add.length + e.del.length + 6).sum := by
    intro l
    induction l with
    | nil => intro e h; cases h
    | cons x l ih =>
      intro e h
      rw [List.map_cons, List.sum_cons]
      rcases List.mem_cons.1 h with rfl | h
      · omega
      · have := ih e h; omega
  have h1 : RSl 5 REdit W [.slice xa xl xc] es := h1
  obtain ⟨a, ca, he, -, -, h1⟩ := h1.inv
  refine ⟨es, a, ca, he, ?_, hb⟩
  · obtain ⟨a', cap', e1, e2, e3, e4⟩ := h1.ex
    refine ⟨a', cap', e1, e2, e3, fun j hj => ?_⟩
    obtain ⟨b, off, cs', f1, f2, f3, f4⟩ := e4 j hj
    have := hle es _ (List.getElem_mem hj)
    obtain ⟨a1, b1, ca1, cb1, g1, g2⟩ := open_editAt f4 (by omega)
    obtain ⟨a0, b0, ca0, cb0, -, h1, h2, w3, w4, w5⟩ := f4
    refine ⟨b, off, cs', f1, f2, f3, a1, b1, ca1, cb1, g1, g2, ⟨fun f hf => ?_, fun n hn => ?_, w3, w4, w5⟩⟩
    · obtain ⟨cs, -, h3, h4⟩ := RSl.mem h1 hf
      exact ⟨h3, h4⟩
    · obtain ⟨cs, -, h3⟩ := RSl.mem h2 hn
      exact wf_i64b h3
/-- A version in a row of versions, and where its text ends. -/
structure VE where
  a : Option Addr
  c : Nat
  v : VM
  e : Nat
def cV (x : VE) : List Value := versC x.a x.c x.v
def cE (x : VE) : List Value := [.int .i64 (x.e : Nat)]
def VersAll (l : List VE) (L : Heap) : Prop := ∀ x ∈ l, ∃ L', VersV x.a x.c x.v L' ∧ L'.Sublist L
theorem VersAll.push {l : List VE} {L Lx : Heap} (h : VersAll l L) {x : VE} (hx : VersV x.a x.c x.v Lx) : VersAll (l ++ [x]) (Lx ++ L) := by
  intro y hy
  rcases List.mem_append.1 hy with hy | hy
  · obtain ⟨L', h1, h2⟩ := h y hy
    exact ⟨L', h1, h2.trans (List.sublist_append_right _ _)⟩
  · rw [List.mem_singleton.1 hy]
    exact ⟨Lx, hx, List.sublist_append_left _ _⟩
theorem VersAll.at {l : List VE} {L H : Heap} {F : Heap → Heap} (h : VersAll l L) {w0 w : World} {T : List Nat} (hS : St w0 T H w) [hc : Chunk H L F] {x : VE} (hx : x ∈ l) : VersAt w x.a x.c x.v := by
  obtain ⟨L', h1, h2⟩ := h x hx
  obtain ⟨A, B, h3, -⟩ := hc.at_
  have hs : L'.Sublist H := by
    rw [h3]
    exact h2.trans ((List.sublist_append_left L B).trans (List.sublist_append_right A _))
  exact h1.at (hS.sub hs)
theorem right_of {v v' : VM} {e : EM} (h : applyM v e = some v') : rightE e = true := by
  unfold applyM startOK at h
  cases hr : rightE e with
  | true => rfl
  | false => rw [hr] at h; simp at h
def chn (l : List VE) : List (VM × Nat) := l.map fun x => (x.v, x.e)
theorem chn_at {l : List VE} {k : Nat} {x : VE} (h : l[k]? = some x) : (chn l)[k]? = some (x.v, x.e) := by
  unfold chn; rw [List.getElem?_map, h]; rfl
theorem cE_flat (l : List VE) : (l.flatMap cE) = l.map fun x => Value.int .i64 (x.e : Nat) := by
  induction l with
  | nil => rfl
  | cons x l ih => rw [List.flatMap_cons, List.map_cons, ih]; rfl
structure CI where
  l : List VE
  t : Bytes
  va : Option Addr
  vc : Nat
  ea : Option Addr
  ec : Nat
  a : Option Addr
  c : Nat
  v : VM
  k : Nat
theorem editB_lenC (e : EM) (h : OkE e) : (editB e).length ≤ 20 * e.add.length + 10 * e.del.length + 50 + (numB e.add.length).length + (numB e.del.length).length := by
  have h1 := filesB_len e.add h.add
  have h2 := ints_len e.del h.del
  have h3 := intB_len11 _ h.wal
  have h4 := intB_len11 _ h.next
  have h5 := intB_len11 _ h.seq
  unfold editB
  simp only [List.length_append]; omega
theorem cE_at {l : List VE} {k : Nat} {x : VE} (h : l[k]? = some x) : (l.flatMap cE)[k]? = some (.int .i64 (x.e : Nat)) := by
  rw [cE_flat, List.getElem?_map, h]; rfl
theorem cV_at {l : List VE} {k : Nat} {x : VE} (h : l[k]? = some x) : ((l.flatMap cV).drop (k * 4)).take 4 = cV x := by
  obtain ⟨hk, rfl⟩ := List.getElem?_eq_some_iff.1 h
  have := flat_atE (cv := cV) (sz := 4) (fun _ => rfl) l [] k hk
  rwa [List.append_nil] at this
/-- The second half: every beginning is read. -/
theorem cut_law {t : Bytes} {l : List VE} (h : Chain t (chn l)) {n k : Nat} (hn : n ≤ t.length) {x : VE} (hx : l[k]? = some x) (hle : x.e ≤ n) (hgt : ∀ y, l[k + 1]? = some y → n < y.e) : Rd (t.take n) zeroV 0 (x.v, x.e) := by
  refine h.cut hn (chn_at hx) hle fun y hy => ?_
  unfold chn at hy
  rw [List.getElem?_map] at hy
  cases hz : l[k + 1]? with
  | none => rw [hz] at hy; cases hy
  | some z => rw [hz] at hy; cases hy; exact hgt z hz
theorem ends_up {t : Bytes} {l : List VE} (h : Chain t (chn l)) {k : Nat} {x y : VE} (hx : l[k]? = some x) (hy : l[k + 1]? = some y) : x.e + 8 ≤ y.e ∧ y.e ≤ t.length :=
  next_end (h.step k _ _ (chn_at hx) (chn_at hy))
structure NI where
  n : Nat
  k : Nat
set_option maxRecDepth 4000 in
set_option maxHeartbeats 16000000 in
theorem ManifestCuts_spec {w : World} {x : Option Addr} {cx : Nat} {es : List EM} (he : RSl 5 REditO w [.slice x es.length cx] es) (hlen : addLen es ≤ 1048576) (hel : es.length ≤ 1048576) :
    Cl Tryd.prog f_tarmaclaw11_ManifestCuts [.slice x es.length cx] w fun r w' => r = .bool true ∧ St w [] [] w' := by
  have hS := St.start w
  refine en_tarmaclaw11_ManifestCuts rfl ?_
  repeat (first | refine SemW.run tblOk ?_ | refine IntG.nw (by omega) ?_ | refine IntG.nu8 (by omega) ?_ | refine IntG.nu32 (by omega) ?_ | refine IntG.nu64 (by omega) ?_ | refine IntG.wr' rfl ?_ | refine Chk.mk (by omega) ?_ | (refine BrG.id ?_; first | with_reducible refine BrG.t ?_ | with_reducible refine BrG.f ?_ | with_reducible refine BrG.notG ?_ | with_reducible refine BrG.nn ?_ | with_reducible refine BrG.ns ?_ | refine BrG.pos (by omega) ?_ | refine BrG.neg (by omega) ?_ | with_reducible refine BrG.pos rfl ?_ | refine BrG.pos (by assumption) ?_ | refine BrG.neg (by assumption) ?_ | refine BrG.pos (by decide) ?_ | refine BrG.neg (by decide) ?_) | refine Chk.mk (ptr_ok tblOk rfl rfl) ?_ | refine Chk.mk (by decide) ?_)
  refine lives_spec.mono ?_
  rintro _ w2 ⟨rfl, hS'⟩
  have hS := hS.call0 hS'
  repeat (first | refine SemW.run tblOk ?_ | refine IntG.nw (by omega) ?_ | refine IntG.nu8 (by omega) ?_ | refine IntG.nu32 (by omega) ?_ | refine IntG.nu64 (by omega) ?_ | refine IntG.wr' rfl ?_ | refine Chk.mk (by omega) ?_ | (refine BrG.id ?_; first | with_reducible refine BrG.t ?_ | with_reducible refine BrG.f ?_ | with_reducible refine BrG.notG ?_ | with_reducible refine BrG.nn ?_ | with_reducible refine BrG.ns ?_ | refine BrG.pos (by omega) ?_ | refine BrG.neg (by omega) ?_ | with_reducible refine BrG.pos rfl ?_ | refine BrG.pos (by assumption) ?_ | refine BrG.neg (by assumption) ?_ | refine BrG.pos (by decide) ?_ | refine BrG.neg (by decide) ?_) | refine Chk.mk (ptr_ok tblOk rfl rfl) ?_ | refine Chk.mk (by decide) ?_)
  refine hS.al ?_
  intro b3 w3 _ hS
  repeat (first | refine SemW.run tblOk ?_ | refine IntG.nw (by omega) ?_ | refine IntG.nu8 (by omega) ?_ | refine IntG.nu32 (by omega) ?_ | refine IntG.nu64 (by omega) ?_ | refine IntG.wr' rfl ?_ | refine Chk.mk (by omega) ?_ | (refine BrG.id ?_; first | with_reducible refine BrG.t ?_ | with_reducible refine BrG.f ?_ | with_reducible refine BrG.notG ?_ | with_reducible refine BrG.nn ?_ | with_reducible refine BrG.ns ?_ | refine BrG.pos (by omega) ?_ | refine BrG.neg (by omega) ?_ | with_reducible refine BrG.pos rfl ?_ | refine BrG.pos (by assumption) ?_ | refine BrG.neg (by assumption) ?_ | refine BrG.pos (by decide) ?_ | refine BrG.neg (by decide) ?_) | refine Chk.mk (ptr_ok tblOk rfl rfl) ?_ | refine Chk.mk (by decide) ?_ | refine hS.ld rfl ?_ | refine hS.ldn rfl ?_ | (refine hS.st rfl rfl ?_; intro _ hS))
  refine hS.al ?_
  intro b5 w4 _ hS
  repeat (first | refine SemW.run tblOk ?_ | refine IntG.nw (by omega) ?_ | refine IntG.nu8 (by omega) ?_ | refine IntG.nu32 (by omega) ?_ | refine IntG.nu64 (by omega) ?_ | refine IntG.wr' rfl ?_ | refine Chk.mk (by omega) ?_ | (refine BrG.id ?_; first | with_reducible refine BrG.t ?_ | with_reducible refine BrG.f ?_ | with_reducible refine BrG.notG ?_ | with_reducible refine BrG.nn ?_ | with_reducible refine BrG.ns ?_ | refine BrG.pos (by omega) ?_ | refine BrG.neg (by omega) ?_ | with_reducible refine BrG.pos rfl ?_ | refine BrG.pos (by assumption) ?_ | refine BrG.neg (by assumption) ?_ | refine BrG.pos (by decide) ?_ | refine BrG.neg (by decide) ?_) | refine Chk.mk (ptr_ok tblOk rfl rfl) ?_ | refine Chk.mk (by decide) ?_ | refine hS.ld rfl ?_ | refine hS.ldn rfl ?_ | (refine hS.st rfl rfl ?_; intro _ hS))
  refine hS.al ?_
  intro b6 w5 _ hS
  repeat (first | refine SemW.run tblOk ?_ | refine IntG.nw (by omega) ?_ | refine IntG.nu8 (by omega) ?_ | refine IntG.nu32 (by omega) ?_ | refine IntG.nu64 (by omega) ?_ | refine IntG.wr' rfl ?_ | refine Chk.mk (by omega) ?_ | (refine BrG.id ?_; first | with_reducible refine BrG.t ?_ | with_reducible refine BrG.f ?_ | with_reducible refine BrG.notG ?_ | with_reducible refine BrG.nn ?_ | with_reducible refine BrG.ns ?_ | refine BrG.pos (by omega) ?_ | refine BrG.neg (by omega) ?_ | with_reducible refine BrG.pos rfl ?_ | refine BrG.pos (by assumption) ?_ | refine BrG.neg (by assumption) ?_ | refine BrG.pos (by decide) ?_ | refine BrG.neg (by decide) ?_) | refine Chk.mk (ptr_ok tblOk rfl rfl) ?_ | refine Chk.mk (by decide) ?_ | refine hS.ld rfl ?_ | refine hS.ldn rfl ?_ | (refine hS.st rfl rfl ?_; intro _ hS))
  have hv5 : Vec T_api_Version 4 (some ⟨b5, 0, none⟩) 1 1 ([(⟨none, 0, zeroV, 0⟩ : VE)].flatMap cV) [(b5, .cells ⟨[.slice none 0 0, .int .i64 0, .int .i64 0, .int .i64 0]⟩ T_api_Version (0, 0))] :=
    Vec.row (e := T_api_Version) (sz := 4) b5 1 1 [.slice none 0 0, .int .i64 0, .int .i64 0, .int .i64 0] [] rfl rfl (Nat.le_refl _)
  have hv6 : Vec T_int 1 (some ⟨b6, 0, none⟩) 1 1 ([(⟨none, 0, zeroV, 0⟩ : VE)].flatMap cE) [(b6, .cells ⟨[.int .i64 (0 : Nat)]⟩ T_int (0, 0))] :=
    Vec.row (e := T_int) (sz := 1) b6 1 1 [.int .i64 (0 : Nat)] [] rfl rfl (Nat.le_refl _)
  have hS : St w [] ([] ++ ([(b6, .cells ⟨[.int .i64 (0 : Nat)]⟩ T_int (0, 0))] ++ ([(b5, .cells ⟨[.slice none 0 0, .int .i64 0, .int .i64 0, .int .i64 0]⟩ T_api_Version (0, 0))] ++ [(b3, .cells ⟨[.slice none 0 0, .int .i64 0, .int .i64 0, .int .i64 0]⟩ T_api_Version (0, 0))]))) _ := hS
  refine SemW.loop (fun z : CI => [(3, ptr b3), (4, Str z.t), (5, .slice z.va z.l.length z.vc), (6, .slice z.ea z.l.length z.ec), (24, .slice x es.length cx), (25, .int .i64 es.length), (26, .int .i64 z.k)])
    (fun z w' => (z.k ≤ es.length ∧ Chain z.t (chn z.l) ∧ (∃ n, n + 1 = z.l.length ∧ z.l[n]? = some ⟨z.a, z.c, z.v, z.t.length⟩) ∧ z.l.length ≤ z.k + 1 ∧ z.t.length ≤ 65544 * z.k ∧ z.v.files.length ≤ addLen (es.take z.k)) ∧
      ∃ LE LV L, VersAll z.l L ∧ Vec T_api_Version 4 z.va z.l.length z.vc (z.l.flatMap cV) LV ∧ Vec T_int 1 z.ea z.l.length z.ec (z.l.flatMap cE) LE ∧ St w [] (L ++ (LE ++ (LV ++ [(b3, .cells ⟨versC z.a z.c z.v⟩ T_api_Version (0, 0))]))) w') (fun z => es.length - z.k) ⟨[⟨none, 0, zeroV, 0⟩], [], some ⟨b5, 0, none⟩, 1, some ⟨b6, 0, none⟩, 1, none, 0, zeroV, 0⟩
    ⟨rfl, rfl, rfl, rfl, rfl, rfl, rfl, trivial⟩ ⟨⟨Nat.zero_le _, Chain.new, ⟨0, rfl, rfl⟩, Nat.le_refl _, Nat.zero_le _, Nat.zero_le _⟩, _, _, [], (fun y hy => by rw [List.mem_singleton.1 hy]; exact ⟨[], VersV.zero, List.Sublist.refl _⟩), hv5, hv6, hS⟩ ?_
  clear hS hv5 hv6
  rintro ⟨l, t, va, vc, ea, ec, a1, c1, v1, k⟩ w6 ⟨⟨hk, hch, ⟨n, hn, hlast⟩, hll, htl, hfl⟩, LE, LV, L, hall, hvv, hve, hS⟩
  simp only at hk hch hn hlast hll htl hfl hall hvv hve hS ⊢
  by_cases hkl : k < es.length
  · have hsl := addLen_succ es k hkl
    have hle := addLen_le es (k + 1)
    have hcur : VersAt w6 a1 c1 v1 := hall.at (x := ⟨a1, c1, v1, t.length⟩) hS (List.mem_of_getElem? hlast)
    obtain ⟨g2, off, cs, rfl, hR, hld⟩ := RSl.ldn hS.nil he hkl
    obtain ⟨ea1, eb1, eca, ecb, rfl, heA, heO⟩ := hR
    generalize es[k] = e at hsl heA heO hld
    unfold editC at hld
    unfold versC at hS
    repeat (first | refine SemW.run tblOk ?_ | refine IntG.nw (by omega) ?_ | refine IntG.nu8 (by omega) ?_ | refine IntG.nu32 (by omega) ?_ | refine IntG.nu64 (by omega) ?_ | refine IntG.wr' rfl ?_ | refine Chk.mk (by omega) ?_ | (refine BrG.id ?_; first | with_reducible refine BrG.t ?_ | with_reducible refine BrG.f ?_ | with_reducible refine BrG.notG ?_ | with_reducible refine BrG.nn ?_ | with_reducible refine BrG.ns ?_ | refine BrG.pos (by omega) ?_ | refine BrG.neg (by omega) ?_ | with_reducible refine BrG.pos rfl ?_ | refine BrG.pos (by assumption) ?_ | refine BrG.neg (by assumption) ?_ | refine BrG.pos (by decide) ?_ | refine BrG.neg (by decide) ?_) | refine Chk.mk (ptr_ok tblOk rfl rfl) ?_ | refine Chk.mk (by decide) ?_)
    refine hld _ ?_
    repeat (first | refine SemW.run tblOk ?_ | refine IntG.nw (by omega) ?_ | refine IntG.nu8 (by omega) ?_ | refine IntG.nu32 (by omega) ?_ | refine IntG.nu64 (by omega) ?_ | refine IntG.wr' rfl ?_ | refine Chk.mk (by omega) ?_ | (refine BrG.id ?_; first | with_reducible refine BrG.t ?_ | with_reducible refine BrG.f ?_ | with_reducible refine BrG.notG ?_ | with_reducible refine BrG.nn ?_ | with_reducible refine BrG.ns ?_ | refine BrG.pos (by omega) ?_ | refine BrG.neg (by omega) ?_ | with_reducible refine BrG.pos rfl ?_ | refine BrG.pos (by assumption) ?_ | refine BrG.neg (by assumption) ?_ | refine BrG.pos (by decide) ?_ | refine BrG.neg (by decide) ?_) | refine Chk.mk (ptr_ok tblOk rfl rfl) ?_ | refine Chk.mk (by decide) ?_)
    refine hS.al ?_
    intro b8 w7 _ hS
    repeat (first | refine SemW.run tblOk ?_ | refine IntG.nw (by omega) ?_ | refine IntG.nu8 (by omega) ?_ | refine IntG.nu32 (by omega) ?_ | refine IntG.nu64 (by omega) ?_ | refine IntG.wr' rfl ?_ | refine Chk.mk (by omega) ?_ | (refine BrG.id ?_; first | with_reducible refine BrG.t ?_ | with_reducible refine BrG.f ?_ | with_reducible refine BrG.notG ?_ | with_reducible refine BrG.nn ?_ | with_reducible refine BrG.ns ?_ | refine BrG.pos (by omega) ?_ | refine BrG.neg (by omega) ?_ | with_reducible refine BrG.pos rfl ?_ | refine BrG.pos (by assumption) ?_ | refine BrG.neg (by assumption) ?_ | refine BrG.pos (by decide) ?_ | refine BrG.neg (by decide) ?_) | refine Chk.mk (ptr_ok tblOk rfl rfl) ?_ | refine Chk.mk (by decide) ?_ | refine hS.ld rfl ?_ | refine hS.ldn rfl ?_ | (refine hS.st rfl rfl ?_; intro _ hS))
    refine hS.al ?_
    intro r w8 _ hS
    have he1 : RSl 5 REditA w8 [.slice (some ⟨r, 0, none⟩) 1 1] [e] := by
      have hS : St w [] ((r, .cells ⟨[editC ea1 eb1 eca ecb e].flatten ++ []⟩ T_api_Edit (0, 0)) :: (b8, .cells ⟨editC ea1 eb1 eca ecb e⟩ T_api_Edit (0, 0)) :: (L ++ (LE ++ (LV ++ [(b3, .cells ⟨[.slice a1 v1.files.length c1, .int .i64 v1.wal, .int .i64 v1.next, .int .i64 v1.seq]⟩ T_api_Version (0, 0))])))) w8 := hS
      refine RSl.own (xs := [e]) hS rfl (by simp [editC]) (fun j h1 h2 => ?_) (Nat.le_refl _) (by decide)
      match j, h1 with
      | 0, _ => exact ⟨_, _, _, _, rfl, heA.keep hS.nil⟩
    repeat (first | refine SemW.run tblOk ?_ | refine IntG.nw (by omega) ?_ | refine IntG.nu8 (by omega) ?_ | refine IntG.nu32 (by omega) ?_ | refine IntG.nu64 (by omega) ?_ | refine IntG.wr' rfl ?_ | refine Chk.mk (by omega) ?_ | (refine BrG.id ?_; first | with_reducible refine BrG.t ?_ | with_reducible refine BrG.f ?_ | with_reducible refine BrG.notG ?_ | with_reducible refine BrG.nn ?_ | with_reducible refine BrG.ns ?_ | refine BrG.pos (by omega) ?_ | refine BrG.neg (by omega) ?_ | with_reducible refine BrG.pos rfl ?_ | refine BrG.pos (by assumption) ?_ | refine BrG.neg (by assumption) ?_ | refine BrG.pos (by decide) ?_ | refine BrG.neg (by decide) ?_) | refine Chk.mk (ptr_ok tblOk rfl rfl) ?_ | refine Chk.mk (by decide) ?_ | refine hS.ld rfl ?_ | refine hS.ldn rfl ?_ | (refine hS.st rfl rfl ?_; intro _ hS))
    have hcu : VersAt w8 a1 c1 v1 := VersAll.at hall (x := ⟨a1, c1, v1, t.length⟩) hS (List.mem_of_getElem? hlast)
    have hpre := Apply_spec (es := [e]) hcu he1 (by show _ + (e.add.length + 0) ≤ _; omega) (by show 1 ≤ 8388608; omega)
    rw [applyAll_one] at hpre
    refine hpre.mono ?_
    clear hpre
    intro r' w9 hpost
    cases hap : applyM v1 e with
    | none =>
      rw [hap] at hpost
      obtain ⟨rfl, hS'⟩ := hpost
      have hS := hS.call0 hS'
      unfold versC zeroV
      repeat (first | refine SemW.run tblOk ?_ | refine IntG.nw (by omega) ?_ | refine IntG.nu8 (by omega) ?_ | refine IntG.nu32 (by omega) ?_ | refine IntG.nu64 (by omega) ?_ | refine IntG.wr' rfl ?_ | refine Chk.mk (by omega) ?_ | (refine BrG.id ?_; first | with_reducible refine BrG.t ?_ | with_reducible refine BrG.f ?_ | with_reducible refine BrG.notG ?_ | with_reducible refine BrG.nn ?_ | with_reducible refine BrG.ns ?_ | refine BrG.pos (by omega) ?_ | refine BrG.neg (by omega) ?_ | with_reducible refine BrG.pos rfl ?_ | refine BrG.pos (by assumption) ?_ | refine BrG.neg (by assumption) ?_ | refine BrG.pos (by decide) ?_ | refine BrG.neg (by decide) ?_) | refine Chk.mk (ptr_ok tblOk rfl rfl) ?_ | refine Chk.mk (by decide) ?_ | refine hS.ld rfl ?_ | refine hS.ldn rfl ?_ | (refine hS.st rfl rfl ?_; intro _ hS))
      refine hS.al ?_
      intro b9 w10 _ hS
      repeat (first | refine SemW.run tblOk ?_ | refine IntG.nw (by omega) ?_ | refine IntG.nu8 (by omega) ?_ | refine IntG.nu32 (by omega) ?_ | refine IntG.nu64 (by omega) ?_ | refine IntG.wr' rfl ?_ | refine Chk.mk (by omega) ?_ | (refine BrG.id ?_; first | with_reducible refine BrG.t ?_ | with_reducible refine BrG.f ?_ | with_reducible refine BrG.notG ?_ | with_reducible refine BrG.nn ?_ | with_reducible refine BrG.ns ?_ | refine BrG.pos (by omega) ?_ | refine BrG.neg (by omega) ?_ | with_reducible refine BrG.pos rfl ?_ | refine BrG.pos (by assumption) ?_ | refine BrG.neg (by assumption) ?_ | refine BrG.pos (by decide) ?_ | refine BrG.neg (by decide) ?_) | refine Chk.mk (ptr_ok tblOk rfl rfl) ?_ | refine Chk.mk (by decide) ?_ | refine hS.ld rfl ?_ | refine hS.ldn rfl ?_ | (refine hS.st rfl rfl ?_; intro _ hS))
      exact ⟨⟨l, t, va, vc, ea, ec, a1, c1, v1, k + 1⟩, ⟨rfl, rfl, rfl, rfl, rfl, rfl, rfl, trivial⟩, ⟨⟨by simp only; omega, hch, ⟨n, hn, hlast⟩, by simp only; omega, by simp only; omega, by simp only; omega⟩, LE, LV, L, hall, hvv, hve, St.tl1 (St.tl2 hS)⟩, by simp only; omega⟩
    | some v2 =>
      rw [hap] at hpost
      obtain ⟨a2, c2, L2, rfl, hv2, hS'⟩ := hpost
      have hS := hS.callNew hS'
      have hln := applyM_len hap
      unfold versC
      repeat (first | refine SemW.run tblOk ?_ | refine IntG.nw (by omega) ?_ | refine IntG.nu8 (by omega) ?_ | refine IntG.nu32 (by omega) ?_ | refine IntG.nu64 (by omega) ?_ | refine IntG.wr' rfl ?_ | refine Chk.mk (by omega) ?_ | (refine BrG.id ?_; first | with_reducible refine BrG.t ?_ | with_reducible refine BrG.f ?_ | with_reducible refine BrG.notG ?_ | with_reducible refine BrG.nn ?_ | with_reducible refine BrG.ns ?_ | refine BrG.pos (by omega) ?_ | refine BrG.neg (by omega) ?_ | with_reducible refine BrG.pos rfl ?_ | refine BrG.pos (by assumption) ?_ | refine BrG.neg (by assumption) ?_ | refine BrG.pos (by decide) ?_ | refine BrG.neg (by decide) ?_) | refine Chk.mk (ptr_ok tblOk rfl rfl) ?_ | refine Chk.mk (by decide) ?_ | refine hS.ld rfl ?_ | refine hS.ldn rfl ?_ | (refine hS.st rfl rfl ?_; intro _ hS))
      refine hS.al ?_
      intro b9 w10 _ hS
      repeat (first | refine SemW.run tblOk ?_ | refine IntG.nw (by omega) ?_ | refine IntG.nu8 (by omega) ?_ | refine IntG.nu32 (by omega) ?_ | refine IntG.nu64 (by omega) ?_ | refine IntG.wr' rfl ?_ | refine Chk.mk (by omega) ?_ | (refine BrG.id ?_; first | with_reducible refine BrG.t ?_ | with_reducible refine BrG.f ?_ | with_reducible refine BrG.notG ?_ | with_reducible refine BrG.nn ?_ | with_reducible refine BrG.ns ?_ | refine BrG.pos (by omega) ?_ | refine BrG.neg (by omega) ?_ | with_reducible refine BrG.pos rfl ?_ | refine BrG.pos (by assumption) ?_ | refine BrG.neg (by assumption) ?_ | refine BrG.pos (by decide) ?_ | refine BrG.neg (by decide) ?_) | refine Chk.mk (ptr_ok tblOk rfl rfl) ?_ | refine Chk.mk (by decide) ?_ | refine hS.ld rfl ?_ | refine hS.ldn rfl ?_ | (refine hS.st rfl rfl ?_; intro _ hS))
      refine Cl.mono (Encode_spec (heA.keep hS.nil) heO) ?_
      rintro _ w11 ⟨rfl, hS'⟩
      have hS := hS.call0 hS'
      have hev : encV e = .tuple ⟨[Str (editB e), .int .i64 0]⟩ := by unfold encV; rw [right_of hap]; rfl
      rw [hev]
      repeat (first | refine SemW.run tblOk ?_ | refine IntG.nw (by omega) ?_ | refine IntG.nu8 (by omega) ?_ | refine IntG.nu32 (by omega) ?_ | refine IntG.nu64 (by omega) ?_ | refine IntG.wr' rfl ?_ | refine Chk.mk (by omega) ?_ | (refine BrG.id ?_; first | with_reducible refine BrG.t ?_ | with_reducible refine BrG.f ?_ | with_reducible refine BrG.notG ?_ | with_reducible refine BrG.nn ?_ | with_reducible refine BrG.ns ?_ | refine BrG.pos (by omega) ?_ | refine BrG.neg (by omega) ?_ | with_reducible refine BrG.pos rfl ?_ | refine BrG.pos (by assumption) ?_ | refine BrG.neg (by assumption) ?_ | refine BrG.pos (by decide) ?_ | refine BrG.neg (by decide) ?_) | refine Chk.mk (ptr_ok tblOk rfl rfl) ?_ | refine Chk.mk (by decide) ?_ | refine hS.ld rfl ?_ | refine hS.ldn rfl ?_ | (refine hS.st rfl rfl ?_; intro _ hS))
      refine hS.al ?_
      intro b10 w12 _ hS
      repeat (first | refine SemW.run tblOk ?_ | refine IntG.nw (by omega) ?_ | refine IntG.nu8 (by omega) ?_ | refine IntG.nu32 (by omega) ?_ | refine IntG.nu64 (by omega) ?_ | refine IntG.wr' rfl ?_ | refine Chk.mk (by omega) ?_ | (refine BrG.id ?_; first | with_reducible refine BrG.t ?_ | with_reducible refine BrG.f ?_ | with_reducible refine BrG.notG ?_ | with_reducible refine BrG.nn ?_ | with_reducible refine BrG.ns ?_ | refine BrG.pos (by omega) ?_ | refine BrG.neg (by omega) ?_ | with_reducible refine BrG.pos rfl ?_ | refine BrG.pos (by assumption) ?_ | refine BrG.neg (by assumption) ?_ | refine BrG.pos (by decide) ?_ | refine BrG.neg (by decide) ?_) | refine Chk.mk (ptr_ok tblOk rfl rfl) ?_ | refine Chk.mk (by decide) ?_ | refine hS.ld rfl ?_ | refine hS.ldn rfl ?_ | (refine hS.st rfl rfl ?_; intro _ hS))
      have hbl := editB_lenC e heO
      have hl0 := heA.len
      have hn1 := numB_len10 e.add.length (by omega)
      have hn2 := numB_len10 e.del.length (by omega)
      have hdm : decodeM (editB e) = some e := (decodeM_iff (by omega)).2 ⟨rfl, heO, right_of hap⟩
      refine Cl.mono (Seal_spec (ps := [editB e]) (by simp only [sumLen, List.map_cons, List.map_nil, List.sum_cons, List.sum_nil, List.length_singleton]; omega) (hS.arr (b := b10) (by simp))) ?_
      rintro _ w13 ⟨rfl, hS'⟩
      have hS := hS.call0 hS'
      by_cases hp : (editB e).length ≤ 65536
      · have hok : okLens [editB e] = true := by simp [okLens, hp]
        have hse : sealB [editB e] = frameB (editB e) := by simp [sealB]
        have hfr := frameB_len (editB e)
        rw [hok, if_pos rfl, hse]
        have hpush := hch.push (n := n) (by rw [chn_at hlast]) (by unfold chn; rw [List.length_map]; exact hn) hap hdm hp
        have hlen2 : (t ++ frameB (editB e)).length = t.length + (frameB (editB e)).length := List.length_append
        generalize hT : t ++ frameB (editB e) = t2 at hpush hlen2
        repeat (first | refine SemW.run tblOk ?_ | refine IntG.nw (by omega) ?_ | refine IntG.nu8 (by omega) ?_ | refine IntG.nu32 (by omega) ?_ | refine IntG.nu64 (by omega) ?_ | refine IntG.wr' rfl ?_ | refine Chk.mk (by omega) ?_ | (refine BrG.id ?_; first | with_reducible refine BrG.t ?_ | with_reducible refine BrG.f ?_ | with_reducible refine BrG.notG ?_ | with_reducible refine BrG.nn ?_ | with_reducible refine BrG.ns ?_ | refine BrG.pos (by omega) ?_ | refine BrG.neg (by omega) ?_ | with_reducible refine BrG.pos rfl ?_ | refine BrG.pos (by assumption) ?_ | refine BrG.neg (by assumption) ?_ | refine BrG.pos (by decide) ?_ | refine BrG.neg (by decide) ?_) | refine Chk.mk (ptr_ok tblOk rfl rfl) ?_ | refine Chk.mk (by decide) ?_ | refine hS.ld rfl ?_ | refine hS.ldn rfl ?_ | (refine hS.st rfl rfl ?_; intro _ hS))
        rw [hT]
        refine hS.al ?_
        intro b11 w14 _ hS
        repeat (first | refine SemW.run tblOk ?_ | refine IntG.nw (by omega) ?_ | refine IntG.nu8 (by omega) ?_ | refine IntG.nu32 (by omega) ?_ | refine IntG.nu64 (by omega) ?_ | refine IntG.wr' rfl ?_ | refine Chk.mk (by omega) ?_ | (refine BrG.id ?_; first | with_reducible refine BrG.t ?_ | with_reducible refine BrG.f ?_ | with_reducible refine BrG.notG ?_ | with_reducible refine BrG.nn ?_ | with_reducible refine BrG.ns ?_ | refine BrG.pos (by omega) ?_ | refine BrG.neg (by omega) ?_ | with_reducible refine BrG.pos rfl ?_ | refine BrG.pos (by assumption) ?_ | refine BrG.neg (by assumption) ?_ | refine BrG.pos (by decide) ?_ | refine BrG.neg (by decide) ?_) | refine Chk.mk (ptr_ok tblOk rfl rfl) ?_ | refine Chk.mk (by decide) ?_ | refine hS.ld rfl ?_ | refine hS.ldn rfl ?_ | (refine hS.st rfl rfl ?_; intro _ hS))
        refine St.app (sz := 4) (m := 1) tblOk rfl rfl rfl rfl hS hvv (news := versC a2 c2 v2) rfl (by have := hS.arr (b := b11) (T' := []) (by simp); exact this) rfl (by show (_ + _) * 48 ≤ _; omega) (by omega) ?_
        intro va2 vc2 LV2 w15 hvv2 hS
        repeat (first | refine SemW.run tblOk ?_ | refine IntG.nw (by omega) ?_ | refine IntG.nu8 (by omega) ?_ | refine IntG.nu32 (by omega) ?_ | refine IntG.nu64 (by omega) ?_ | refine IntG.wr' rfl ?_ | refine Chk.mk (by omega) ?_ | (refine BrG.id ?_; first | with_reducible refine BrG.t ?_ | with_reducible refine BrG.f ?_ | with_reducible refine BrG.notG ?_ | with_reducible refine BrG.nn ?_ | with_reducible refine BrG.ns ?_ | refine BrG.pos (by omega) ?_ | refine BrG.neg (by omega) ?_ | with_reducible refine BrG.pos rfl ?_ | refine BrG.pos (by assumption) ?_ | refine BrG.neg (by assumption) ?_ | refine BrG.pos (by decide) ?_ | refine BrG.neg (by decide) ?_) | refine Chk.mk (ptr_ok tblOk rfl rfl) ?_ | refine Chk.mk (by decide) ?_ | refine hS.ld rfl ?_ | refine hS.ldn rfl ?_ | (refine hS.st rfl rfl ?_; intro _ hS))
        refine hS.al ?_
        intro b12 w16 _ hS
        repeat (first | refine SemW.run tblOk ?_ | refine IntG.nw (by omega) ?_ | refine IntG.nu8 (by omega) ?_ | refine IntG.nu32 (by omega) ?_ | refine IntG.nu64 (by omega) ?_ | refine IntG.wr' rfl ?_ | refine Chk.mk (by omega) ?_ | (refine BrG.id ?_; first | with_reducible refine BrG.t ?_ | with_reducible refine BrG.f ?_ | with_reducible refine BrG.notG ?_ | with_reducible refine BrG.nn ?_ | with_reducible refine BrG.ns ?_ | refine BrG.pos (by omega) ?_ | refine BrG.neg (by omega) ?_ | with_reducible refine BrG.pos rfl ?_ | refine BrG.pos (by assumption) ?_ | refine BrG.neg (by assumption) ?_ | refine BrG.pos (by decide) ?_ | refine BrG.neg (by decide) ?_) | refine Chk.mk (ptr_ok tblOk rfl rfl) ?_ | refine Chk.mk (by decide) ?_ | refine hS.ld rfl ?_ | refine hS.ldn rfl ?_ | (refine hS.st rfl rfl ?_; intro _ hS))
        refine St.app (sz := 1) (m := 1) tblOk rfl rfl rfl rfl hS hve (news := [.int .i64 (t2.length : Nat)]) rfl (by have := hS.arr (b := b12) (T' := []) (by simp); exact this) rfl (by show (_ + _) * 8 ≤ _; omega) (by omega) ?_
        intro ea2 ec2 LE2 w17 hve2 hS
        repeat (first | refine SemW.run tblOk ?_ | refine IntG.nw (by omega) ?_ | refine IntG.nu8 (by omega) ?_ | refine IntG.nu32 (by omega) ?_ | refine IntG.nu64 (by omega) ?_ | refine IntG.wr' rfl ?_ | refine Chk.mk (by omega) ?_ | (refine BrG.id ?_; first | with_reducible refine BrG.t ?_ | with_reducible refine BrG.f ?_ | with_reducible refine BrG.notG ?_ | with_reducible refine BrG.nn ?_ | with_reducible refine BrG.ns ?_ | refine BrG.pos (by omega) ?_ | refine BrG.neg (by omega) ?_ | with_reducible refine BrG.pos rfl ?_ | refine BrG.pos (by assumption) ?_ | refine BrG.neg (by assumption) ?_ | refine BrG.pos (by decide) ?_ | refine BrG.neg (by decide) ?_) | refine Chk.mk (ptr_ok tblOk rfl rfl) ?_ | refine Chk.mk (by decide) ?_ | refine hS.ld rfl ?_ | refine hS.ldn rfl ?_ | (refine hS.st rfl rfl ?_; intro _ hS))
        have hl1 : (l ++ [(⟨a2, c2, v2, t2.length⟩ : VE)]).length = l.length + 1 := by simp
        have hc1 : (l ++ [(⟨a2, c2, v2, t2.length⟩ : VE)]).flatMap cV = l.flatMap cV ++ versC a2 c2 v2 := by simp [cV]
        have hc2 : (l ++ [(⟨a2, c2, v2, t2.length⟩ : VE)]).flatMap cE = l.flatMap cE ++ [.int .i64 (t2.length : Nat)] := by simp [cE]
        refine ⟨⟨l ++ [⟨a2, c2, v2, t2.length⟩], t2, va2, vc2, ea2, ec2, a2, c2, v2, k + 1⟩, ⟨rfl, rfl, by rw [hl1]; exact rfl, by rw [hl1]; exact rfl, rfl, rfl, rfl, trivial⟩, ⟨⟨by simp only; omega, ?_, ⟨l.length, by simp only; rw [hl1], by simp⟩, by simp only; rw [hl1]; omega, by simp only; omega, by simp only; omega⟩, LE2, LV2, L2 ++ L, hall.push (x := ⟨a2, c2, v2, t2.length⟩) hv2, by simp only; rw [hl1, hc1]; exact hvv2, by simp only; rw [hl1, hc2]; exact hve2, ?_⟩, by simp only; omega⟩
        · unfold chn at hpush ⊢
          rw [List.map_append]; exact hpush
        · rw [List.append_assoc]
          exact hS.sub ((List.Sublist.append_left ((List.sublist_cons_self _ _).trans (List.sublist_cons_self _ _)) L2).trans ((List.sublist_cons_self _ _).trans ((List.sublist_cons_self _ _).trans ((List.sublist_cons_self _ _).trans (List.sublist_cons_self _ _)))))
      · have hok : okLens [editB e] = false := by simp [okLens]; omega
        rw [hok, if_neg (by decide)]
        repeat (first | refine SemW.run tblOk ?_ | refine IntG.nw (by omega) ?_ | refine IntG.nu8 (by omega) ?_ | refine IntG.nu32 (by omega) ?_ | refine IntG.nu64 (by omega) ?_ | refine IntG.wr' rfl ?_ | refine Chk.mk (by omega) ?_ | (refine BrG.id ?_; first | with_reducible refine BrG.t ?_ | with_reducible refine BrG.f ?_ | with_reducible refine BrG.notG ?_ | with_reducible refine BrG.nn ?_ | with_reducible refine BrG.ns ?_ | refine BrG.pos (by omega) ?_ | refine BrG.neg (by omega) ?_ | with_reducible refine BrG.pos rfl ?_ | refine BrG.pos (by assumption) ?_ | refine BrG.neg (by assumption) ?_ | refine BrG.pos (by decide) ?_ | refine BrG.neg (by decide) ?_) | refine Chk.mk (ptr_ok tblOk rfl rfl) ?_ | refine Chk.mk (by decide) ?_ | refine hS.ld rfl ?_ | refine hS.ldn rfl ?_ | (refine hS.st rfl rfl ?_; intro _ hS))
        exact ⟨⟨l, t, va, vc, ea, ec, a1, c1, v1, k + 1⟩, ⟨rfl, rfl, rfl, rfl, rfl, rfl, rfl, trivial⟩, ⟨⟨by simp only; omega, hch, ⟨n, hn, hlast⟩, by simp only; omega, by simp only; omega, by simp only; omega⟩, LE, LV, L, hall, hvv, hve, hS.sub ((List.sublist_cons_self _ _).trans ((List.sublist_cons_self _ _).trans ((List.sublist_append_right L2 _).trans ((List.sublist_cons_self _ _).trans (List.sublist_cons_self _ _)))))⟩, by simp only; omega⟩
  · have hS0 := hS
    have hVs : Arr w6 [] va (l.flatMap cV) := hvv.arr hS0 (by simp)
    have hEs : Arr w6 [] ea (l.flatMap cE) := hve.arr hS0 (by simp)
    have hold : ∀ x ∈ l, VersAt w6 x.a x.c x.v := fun x hx => hall.at hS0 hx
    have hvl := hvv.len
    have hel2 := hve.len
    obtain ⟨gv, offv, rfl, -, -⟩ := hVs.get (j := 0) (by omega)
    obtain ⟨ge, offe, rfl, -, -⟩ := hEs.get (j := 0) (by omega)
    have hS : St w6 [] [] w6 := St.start w6
    have hz := hch.zero
    unfold chn at hz
    rw [List.getElem?_map] at hz
    obtain ⟨x0, hx0⟩ : ∃ x0, l[0]? = some x0 := ⟨_, List.getElem?_eq_getElem (by omega)⟩
    rw [hx0] at hz
    simp only [Option.map_some, Option.some.injEq, Prod.mk.injEq] at hz
    have hke : k = es.length := by omega
    repeat (first | refine SemW.run tblOk ?_ | refine IntG.nw (by omega) ?_ | refine IntG.nu8 (by omega) ?_ | refine IntG.nu32 (by omega) ?_ | refine IntG.nu64 (by omega) ?_ | refine IntG.wr' rfl ?_ | refine Chk.mk (by omega) ?_ | (refine BrG.id ?_; first | with_reducible refine BrG.t ?_ | with_reducible refine BrG.f ?_ | with_reducible refine BrG.notG ?_ | with_reducible refine BrG.nn ?_ | with_reducible refine BrG.ns ?_ | refine BrG.pos (by omega) ?_ | refine BrG.neg (by omega) ?_ | with_reducible refine BrG.pos rfl ?_ | refine BrG.pos (by assumption) ?_ | refine BrG.neg (by assumption) ?_ | refine BrG.pos (by decide) ?_ | refine BrG.neg (by decide) ?_) | refine Chk.mk (ptr_ok tblOk rfl rfl) ?_ | refine Chk.mk (by decide) ?_ | refine hS.ld rfl ?_ | refine hS.ldn rfl ?_ | (refine hS.st rfl rfl ?_; intro _ hS))
    refine SemW.loop (fun z : NI => [(4, Str t), (5, .slice (some ⟨gv, offv, none⟩) l.length vc), (6, .slice (some ⟨ge, offe, none⟩) l.length ec), (15, .int .i64 z.k), (16, .int .i64 z.n)])
      (fun z w' => (z.n ≤ 300 ∧ (∃ x, l[z.k]? = some x ∧ x.e ≤ z.n) ∧ (∀ y, l[z.k + 1]? = some y → z.n ≤ y.e)) ∧ St w6 [] [] w') (fun z => 300 - z.n) ⟨0, 0⟩
      ⟨rfl, rfl, rfl, rfl, rfl, trivial⟩ ⟨⟨by decide, ⟨x0, hx0, by rw [hz.2]; exact Nat.zero_le _⟩, fun y _ => Nat.zero_le _⟩, hS⟩ ?_
    clear hS
    rintro ⟨n2, k2⟩ w7 ⟨⟨h300, ⟨x1, hx1, hle1⟩, hnx⟩, hS⟩
    simp only at h300 hx1 hle1 hnx ⊢
    by_cases h1 : n2 ≤ t.length
    · by_cases h2 : n2 < 300
      · have hk2 := (List.getElem?_eq_some_iff.1 hx1).1
        by_cases h3 : k2 + 1 < l.length
        · have hy : l[k2 + 1]? = some l[k2 + 1] := List.getElem?_eq_getElem h3
          have hcy := cE_at hy
          have hup := ends_up hch hx1 hy
          have hny := hnx _ hy
          generalize l[k2 + 1] = y at hy hcy hup hny
          by_cases h4 : y.e ≤ n2
          · have hgt : ∀ z, l[k2 + 1 + 1]? = some z → n2 < z.e := fun z hz => by
              have := ends_up hch hy hz
              omega
            repeat (first | refine SemW.run tblOk ?_ | refine IntG.nw (by omega) ?_ | refine IntG.nu8 (by omega) ?_ | refine IntG.nu32 (by omega) ?_ | refine IntG.nu64 (by omega) ?_ | refine IntG.wr' rfl ?_ | refine Chk.mk (by omega) ?_ | (refine BrG.id ?_; first | with_reducible refine BrG.t ?_ | with_reducible refine BrG.f ?_ | with_reducible refine BrG.notG ?_ | with_reducible refine BrG.nn ?_ | with_reducible refine BrG.ns ?_ | refine BrG.pos (by omega) ?_ | refine BrG.neg (by omega) ?_ | with_reducible refine BrG.pos rfl ?_ | refine BrG.pos (by assumption) ?_ | refine BrG.neg (by assumption) ?_ | refine BrG.pos (by decide) ?_ | refine BrG.neg (by decide) ?_) | refine Chk.mk (ptr_ok tblOk rfl rfl) ?_ | refine Chk.mk (by decide) ?_ | refine hS.ld rfl ?_ | refine hS.ldn rfl ?_ | (refine hS.st rfl rfl ?_; intro _ hS))
            refine Arr.ldc hS hEs hcy (by omega) ?_
            repeat (first | refine SemW.run tblOk ?_ | refine IntG.nw (by omega) ?_ | refine IntG.nu8 (by omega) ?_ | refine IntG.nu32 (by omega) ?_ | refine IntG.nu64 (by omega) ?_ | refine IntG.wr' rfl ?_ | refine Chk.mk (by omega) ?_ | (refine BrG.id ?_; first | with_reducible refine BrG.t ?_ | with_reducible refine BrG.f ?_ | with_reducible refine BrG.notG ?_ | with_reducible refine BrG.nn ?_ | with_reducible refine BrG.ns ?_ | refine BrG.pos (by omega) ?_ | refine BrG.neg (by omega) ?_ | with_reducible refine BrG.pos rfl ?_ | refine BrG.pos (by assumption) ?_ | refine BrG.neg (by assumption) ?_ | refine BrG.pos (by decide) ?_ | refine BrG.neg (by decide) ?_) | refine Chk.mk (ptr_ok tblOk rfl rfl) ?_ | refine Chk.mk (by decide) ?_ | refine hS.ld rfl ?_ | refine hS.ldn rfl ?_ | (refine hS.st rfl rfl ?_; intro _ hS))
            refine Cl.mono (Read_spec (t := t.take n2) (by rw [List.length_take]; omega)) ?_
            rintro _ w8 ⟨v2, e2, a2, c2, L2, rfl, hv2, hS', hrd2, hk2', hl2⟩
            have hu := (cut_law hch h1 hy h4 hgt).unique hrd2
            simp only [Prod.mk.injEq] at hu
            obtain ⟨hu1, hu2⟩ := hu
            subst hu2
            have hS := hS.callNew hS'
            have hce := cE_at hy
            have hcv := cV_at hy
            have hvo := hold y (List.mem_of_getElem? hy)
            have hfl2 : v2.files.length ≤ 16777216 := by rw [List.length_take] at hl2; omega
            unfold versC
            repeat (first | refine SemW.run tblOk ?_ | refine IntG.nw (by omega) ?_ | refine IntG.nu8 (by omega) ?_ | refine IntG.nu32 (by omega) ?_ | refine IntG.nu64 (by omega) ?_ | refine IntG.wr' rfl ?_ | refine Chk.mk (by omega) ?_ | (refine BrG.id ?_; first | with_reducible refine BrG.t ?_ | with_reducible refine BrG.f ?_ | with_reducible refine BrG.notG ?_ | with_reducible refine BrG.nn ?_ | with_reducible refine BrG.ns ?_ | refine BrG.pos (by omega) ?_ | refine BrG.neg (by omega) ?_ | with_reducible refine BrG.pos rfl ?_ | refine BrG.pos (by assumption) ?_ | refine BrG.neg (by assumption) ?_ | refine BrG.pos (by decide) ?_ | refine BrG.neg (by decide) ?_) | refine Chk.mk (ptr_ok tblOk rfl rfl) ?_ | refine Chk.mk (by decide) ?_ | refine hS.ld rfl ?_ | refine hS.ldn rfl ?_ | (refine hS.st rfl rfl ?_; intro _ hS))
            refine hS.al ?_
            intro b17 w9 _ hS
            repeat (first | refine SemW.run tblOk ?_ | refine IntG.nw (by omega) ?_ | refine IntG.nu8 (by omega) ?_ | refine IntG.nu32 (by omega) ?_ | refine IntG.nu64 (by omega) ?_ | refine IntG.wr' rfl ?_ | refine Chk.mk (by omega) ?_ | (refine BrG.id ?_; first | with_reducible refine BrG.t ?_ | with_reducible refine BrG.f ?_ | with_reducible refine BrG.notG ?_ | with_reducible refine BrG.nn ?_ | with_reducible refine BrG.ns ?_ | refine BrG.pos (by omega) ?_ | refine BrG.neg (by omega) ?_ | with_reducible refine BrG.pos rfl ?_ | refine BrG.pos (by assumption) ?_ | refine BrG.neg (by assumption) ?_ | refine BrG.pos (by decide) ?_ | refine BrG.neg (by decide) ?_) | refine Chk.mk (ptr_ok tblOk rfl rfl) ?_ | refine Chk.mk (by decide) ?_ | refine hS.ld rfl ?_ | refine hS.ldn rfl ?_ | (refine hS.st rfl rfl ?_; intro _ hS))
            refine SemW.draw tblOk mixed (fun w' => St w6 [] ((b17, .cells ⟨[.slice a2 v2.files.length c2, .int .i64 v2.wal, .int .i64 v2.next, .int .i64 v2.seq]⟩ T_api_Version (0, 0)) :: (L2 ++ [])) w') [12, 13, 14] [0, 1, 2, 3, 4, 5, 6, 7, 8, 9, 10, 11, 12, 13, 14] (by kernel_rfl) hS.drew ?_
            have hS := hS.drew
            generalize w9.drew = w9 at hS
            repeat (first | refine SemW.run tblOk ?_ | refine IntG.nw (by omega) ?_ | refine IntG.nu8 (by omega) ?_ | refine IntG.nu32 (by omega) ?_ | refine IntG.nu64 (by omega) ?_ | refine IntG.wr' rfl ?_ | refine Chk.mk (by omega) ?_ | (refine BrG.id ?_; first | with_reducible refine BrG.t ?_ | with_reducible refine BrG.f ?_ | with_reducible refine BrG.notG ?_ | with_reducible refine BrG.nn ?_ | with_reducible refine BrG.ns ?_ | refine BrG.pos (by omega) ?_ | refine BrG.neg (by omega) ?_ | with_reducible refine BrG.pos rfl ?_ | refine BrG.pos (by assumption) ?_ | refine BrG.neg (by assumption) ?_ | refine BrG.pos (by decide) ?_ | refine BrG.neg (by decide) ?_) | refine Chk.mk (ptr_ok tblOk rfl rfl) ?_ | refine Chk.mk (by decide) ?_ | refine hS.ldC rfl ?_ | refine hS.ldnC rfl ?_)
            refine Arr.ldcC hEs hce (by omega) ?_
            repeat (first | refine SemW.run tblOk ?_ | refine IntG.nw (by omega) ?_ | refine IntG.nu8 (by omega) ?_ | refine IntG.nu32 (by omega) ?_ | refine IntG.nu64 (by omega) ?_ | refine IntG.wr' rfl ?_ | refine Chk.mk (by omega) ?_ | (refine BrG.id ?_; first | with_reducible refine BrG.t ?_ | with_reducible refine BrG.f ?_ | with_reducible refine BrG.notG ?_ | with_reducible refine BrG.nn ?_ | with_reducible refine BrG.ns ?_ | refine BrG.pos (by omega) ?_ | refine BrG.neg (by omega) ?_ | with_reducible refine BrG.pos rfl ?_ | refine BrG.pos (by assumption) ?_ | refine BrG.neg (by assumption) ?_ | refine BrG.pos (by decide) ?_ | refine BrG.neg (by decide) ?_) | refine Chk.mk (ptr_ok tblOk rfl rfl) ?_ | refine Chk.mk (by decide) ?_ | refine hS.ldC rfl ?_ | refine hS.ldnC rfl ?_)
            refine Arr.ldnC hVs hcv rfl (by omega) ?_
            repeat (first | refine SemW.run tblOk ?_ | refine IntG.nw (by omega) ?_ | refine IntG.nu8 (by omega) ?_ | refine IntG.nu32 (by omega) ?_ | refine IntG.nu64 (by omega) ?_ | refine IntG.wr' rfl ?_ | refine Chk.mk (by omega) ?_ | (refine BrG.id ?_; first | with_reducible refine BrG.t ?_ | with_reducible refine BrG.f ?_ | with_reducible refine BrG.notG ?_ | with_reducible refine BrG.nn ?_ | with_reducible refine BrG.ns ?_ | refine BrG.pos (by omega) ?_ | refine BrG.neg (by omega) ?_ | with_reducible refine BrG.pos rfl ?_ | refine BrG.pos (by assumption) ?_ | refine BrG.neg (by assumption) ?_ | refine BrG.pos (by decide) ?_ | refine BrG.neg (by decide) ?_) | refine Chk.mk (ptr_ok tblOk rfl rfl) ?_ | refine Chk.mk (by decide) ?_ | refine hS.ldC rfl ?_ | refine hS.ldnC rfl ?_)
            refine (Same_spec (hv2.at hS) (hvo.keep hS.nil) hfl2).mono ?_
            rintro _ w10 ⟨rfl, hS'⟩
            have hS := hS.call0 hS'
            rw [decide_eq_true hu1.symm]
            repeat (first | refine SemW.run tblOk ?_ | refine IntG.nw (by omega) ?_ | refine IntG.nu8 (by omega) ?_ | refine IntG.nu32 (by omega) ?_ | refine IntG.nu64 (by omega) ?_ | refine IntG.wr' rfl ?_ | refine Chk.mk (by omega) ?_ | (refine BrG.id ?_; first | with_reducible refine BrG.t ?_ | with_reducible refine BrG.f ?_ | with_reducible refine BrG.notG ?_ | with_reducible refine BrG.nn ?_ | with_reducible refine BrG.ns ?_ | refine BrG.pos (by omega) ?_ | refine BrG.neg (by omega) ?_ | with_reducible refine BrG.pos rfl ?_ | refine BrG.pos (by assumption) ?_ | refine BrG.neg (by assumption) ?_ | refine BrG.pos (by decide) ?_ | refine BrG.neg (by decide) ?_) | refine Chk.mk (ptr_ok tblOk rfl rfl) ?_ | refine Chk.mk (by decide) ?_ | refine hS.ldC rfl ?_ | refine hS.ldnC rfl ?_)
            repeat (first | refine SemW.run tblOk ?_ | refine IntG.nw (by omega) ?_ | refine IntG.nu8 (by omega) ?_ | refine IntG.nu32 (by omega) ?_ | refine IntG.nu64 (by omega) ?_ | refine IntG.wr' rfl ?_ | refine Chk.mk (by omega) ?_ | (refine BrG.id ?_; first | with_reducible refine BrG.t ?_ | with_reducible refine BrG.f ?_ | with_reducible refine BrG.notG ?_ | with_reducible refine BrG.nn ?_ | with_reducible refine BrG.ns ?_ | refine BrG.pos (by omega) ?_ | refine BrG.neg (by omega) ?_ | with_reducible refine BrG.pos rfl ?_ | refine BrG.pos (by assumption) ?_ | refine BrG.neg (by assumption) ?_ | refine BrG.pos (by decide) ?_ | refine BrG.neg (by decide) ?_) | refine Chk.mk (ptr_ok tblOk rfl rfl) ?_ | refine Chk.mk (by decide) ?_ | refine hS.ld rfl ?_ | refine hS.ldn rfl ?_ | (refine hS.st rfl rfl ?_; intro _ hS))
            exact ⟨⟨n2 + 1, (k2 + 1)⟩, ⟨rfl, rfl, rfl, rfl, rfl, trivial⟩, ⟨⟨by simp only; omega, ⟨y, hy, by simp only; omega⟩, fun z hz => hgt z hz⟩, hS.nil⟩, by simp only; omega⟩
          · have hgt : ∀ z, l[k2 + 1]? = some z → n2 < z.e := fun z hz => by
              rw [hy] at hz; cases hz; omega
            repeat (first | refine SemW.run tblOk ?_ | refine IntG.nw (by omega) ?_ | refine IntG.nu8 (by omega) ?_ | refine IntG.nu32 (by omega) ?_ | refine IntG.nu64 (by omega) ?_ | refine IntG.wr' rfl ?_ | refine Chk.mk (by omega) ?_ | (refine BrG.id ?_; first | with_reducible refine BrG.t ?_ | with_reducible refine BrG.f ?_ | with_reducible refine BrG.notG ?_ | with_reducible refine BrG.nn ?_ | with_reducible refine BrG.ns ?_ | refine BrG.pos (by omega) ?_ | refine BrG.neg (by omega) ?_ | with_reducible refine BrG.pos rfl ?_ | refine BrG.pos (by assumption) ?_ | refine BrG.neg (by assumption) ?_ | refine BrG.pos (by decide) ?_ | refine BrG.neg (by decide) ?_) | refine Chk.mk (ptr_ok tblOk rfl rfl) ?_ | refine Chk.mk (by decide) ?_ | refine hS.ld rfl ?_ | refine hS.ldn rfl ?_ | (refine hS.st rfl rfl ?_; intro _ hS))
            refine Arr.ldc hS hEs hcy (by omega) ?_
            repeat (first | refine SemW.run tblOk ?_ | refine IntG.nw (by omega) ?_ | refine IntG.nu8 (by omega) ?_ | refine IntG.nu32 (by omega) ?_ | refine IntG.nu64 (by omega) ?_ | refine IntG.wr' rfl ?_ | refine Chk.mk (by omega) ?_ | (refine BrG.id ?_; first | with_reducible refine BrG.t ?_ | with_reducible refine BrG.f ?_ | with_reducible refine BrG.notG ?_ | with_reducible refine BrG.nn ?_ | with_reducible refine BrG.ns ?_ | refine BrG.pos (by omega) ?_ | refine BrG.neg (by omega) ?_ | with_reducible refine BrG.pos rfl ?_ | refine BrG.pos (by assumption) ?_ | refine BrG.neg (by assumption) ?_ | refine BrG.pos (by decide) ?_ | refine BrG.neg (by decide) ?_) | refine Chk.mk (ptr_ok tblOk rfl rfl) ?_ | refine Chk.mk (by decide) ?_ | refine hS.ld rfl ?_ | refine hS.ldn rfl ?_ | (refine hS.st rfl rfl ?_; intro _ hS))
            refine Cl.mono (Read_spec (t := t.take n2) (by rw [List.length_take]; omega)) ?_
            rintro _ w8 ⟨v2, e2, a2, c2, L2, rfl, hv2, hS', hrd2, hk2', hl2⟩
            have hu := (cut_law hch h1 hx1 hle1 hgt).unique hrd2
            simp only [Prod.mk.injEq] at hu
            obtain ⟨hu1, hu2⟩ := hu
            subst hu2
            have hS := hS.callNew hS'
            have hce := cE_at hx1
            have hcv := cV_at hx1
            have hvo := hold x1 (List.mem_of_getElem? hx1)
            have hfl2 : v2.files.length ≤ 16777216 := by rw [List.length_take] at hl2; omega
            unfold versC
            repeat (first | refine SemW.run tblOk ?_ | refine IntG.nw (by omega) ?_ | refine IntG.nu8 (by omega) ?_ | refine IntG.nu32 (by omega) ?_ | refine IntG.nu64 (by omega) ?_ | refine IntG.wr' rfl ?_ | refine Chk.mk (by omega) ?_ | (refine BrG.id ?_; first | with_reducible refine BrG.t ?_ | with_reducible refine BrG.f ?_ | with_reducible refine BrG.notG ?_ | with_reducible refine BrG.nn ?_ | with_reducible refine BrG.ns ?_ | refine BrG.pos (by omega) ?_ | refine BrG.neg (by omega) ?_ | with_reducible refine BrG.pos rfl ?_ | refine BrG.pos (by assumption) ?_ | refine BrG.neg (by assumption) ?_ | refine BrG.pos (by decide) ?_ | refine BrG.neg (by decide) ?_) | refine Chk.mk (ptr_ok tblOk rfl rfl) ?_ | refine Chk.mk (by decide) ?_ | refine hS.ld rfl ?_ | refine hS.ldn rfl ?_ | (refine hS.st rfl rfl ?_; intro _ hS))
            refine hS.al ?_
            intro b17 w9 _ hS
            repeat (first | refine SemW.run tblOk ?_ | refine IntG.nw (by omega) ?_ | refine IntG.nu8 (by omega) ?_ | refine IntG.nu32 (by omega) ?_ | refine IntG.nu64 (by omega) ?_ | refine IntG.wr' rfl ?_ | refine Chk.mk (by omega) ?_ | (refine BrG.id ?_; first | with_reducible refine BrG.t ?_ | with_reducible refine BrG.f ?_ | with_reducible refine BrG.notG ?_ | with_reducible refine BrG.nn ?_ | with_reducible refine BrG.ns ?_ | refine BrG.pos (by omega) ?_ | refine BrG.neg (by omega) ?_ | with_reducible refine BrG.pos rfl ?_ | refine BrG.pos (by assumption) ?_ | refine BrG.neg (by assumption) ?_ | refine BrG.pos (by decide) ?_ | refine BrG.neg (by decide) ?_) | refine Chk.mk (ptr_ok tblOk rfl rfl) ?_ | refine Chk.mk (by decide) ?_ | refine hS.ld rfl ?_ | refine hS.ldn rfl ?_ | (refine hS.st rfl rfl ?_; intro _ hS))
            refine SemW.draw tblOk mixed (fun w' => St w6 [] ((b17, .cells ⟨[.slice a2 v2.files.length c2, .int .i64 v2.wal, .int .i64 v2.next, .int .i64 v2.seq]⟩ T_api_Version (0, 0)) :: (L2 ++ [])) w') [12, 13, 14] [0, 1, 2, 3, 4, 5, 6, 7, 8, 9, 10, 11, 12, 13, 14] (by kernel_rfl) hS.drew ?_
            have hS := hS.drew
            generalize w9.drew = w9 at hS
            repeat (first | refine SemW.run tblOk ?_ | refine IntG.nw (by omega) ?_ | refine IntG.nu8 (by omega) ?_ | refine IntG.nu32 (by omega) ?_ | refine IntG.nu64 (by omega) ?_ | refine IntG.wr' rfl ?_ | refine Chk.mk (by omega) ?_ | (refine BrG.id ?_; first | with_reducible refine BrG.t ?_ | with_reducible refine BrG.f ?_ | with_reducible refine BrG.notG ?_ | with_reducible refine BrG.nn ?_ | with_reducible refine BrG.ns ?_ | refine BrG.pos (by omega) ?_ | refine BrG.neg (by omega) ?_ | with_reducible refine BrG.pos rfl ?_ | refine BrG.pos (by assumption) ?_ | refine BrG.neg (by assumption) ?_ | refine BrG.pos (by decide) ?_ | refine BrG.neg (by decide) ?_) | refine Chk.mk (ptr_ok tblOk rfl rfl) ?_ | refine Chk.mk (by decide) ?_ | refine hS.ldC rfl ?_ | refine hS.ldnC rfl ?_)
            refine Arr.ldcC hEs hce (by omega) ?_
            repeat (first | refine SemW.run tblOk ?_ | refine IntG.nw (by omega) ?_ | refine IntG.nu8 (by omega) ?_ | refine IntG.nu32 (by omega) ?_ | refine IntG.nu64 (by omega) ?_ | refine IntG.wr' rfl ?_ | refine Chk.mk (by omega) ?_ | (refine BrG.id ?_; first | with_reducible refine BrG.t ?_ | with_reducible refine BrG.f ?_ | with_reducible refine BrG.notG ?_ | with_reducible refine BrG.nn ?_ | with_reducible refine BrG.ns ?_ | refine BrG.pos (by omega) ?_ | refine BrG.neg (by omega) ?_ | with_reducible refine BrG.pos rfl ?_ | refine BrG.pos (by assumption) ?_ | refine BrG.neg (by assumption) ?_ | refine BrG.pos (by decide) ?_ | refine BrG.neg (by decide) ?_) | refine Chk.mk (ptr_ok tblOk rfl rfl) ?_ | refine Chk.mk (by decide) ?_ | refine hS.ldC rfl ?_ | refine hS.ldnC rfl ?_)
            refine Arr.ldnC hVs hcv rfl (by omega) ?_
            repeat (first | refine SemW.run tblOk ?_ | refine IntG.nw (by omega) ?_ | refine IntG.nu8 (by omega) ?_ | refine IntG.nu32 (by omega) ?_ | refine IntG.nu64 (by omega) ?_ | refine IntG.wr' rfl ?_ | refine Chk.mk (by omega) ?_ | (refine BrG.id ?_; first | with_reducible refine BrG.t ?_ | with_reducible refine BrG.f ?_ | with_reducible refine BrG.notG ?_ | with_reducible refine BrG.nn ?_ | with_reducible refine BrG.ns ?_ | refine BrG.pos (by omega) ?_ | refine BrG.neg (by omega) ?_ | with_reducible refine BrG.pos rfl ?_ | refine BrG.pos (by assumption) ?_ | refine BrG.neg (by assumption) ?_ | refine BrG.pos (by decide) ?_ | refine BrG.neg (by decide) ?_) | refine Chk.mk (ptr_ok tblOk rfl rfl) ?_ | refine Chk.mk (by decide) ?_ | refine hS.ldC rfl ?_ | refine hS.ldnC rfl ?_)
            refine (Same_spec (hv2.at hS) (hvo.keep hS.nil) hfl2).mono ?_
            rintro _ w10 ⟨rfl, hS'⟩
            have hS := hS.call0 hS'
            rw [decide_eq_true hu1.symm]
            repeat (first | refine SemW.run tblOk ?_ | refine IntG.nw (by omega) ?_ | refine IntG.nu8 (by omega) ?_ | refine IntG.nu32 (by omega) ?_ | refine IntG.nu64 (by omega) ?_ | refine IntG.wr' rfl ?_ | refine Chk.mk (by omega) ?_ | (refine BrG.id ?_; first | with_reducible refine BrG.t ?_ | with_reducible refine BrG.f ?_ | with_reducible refine BrG.notG ?_ | with_reducible refine BrG.nn ?_ | with_reducible refine BrG.ns ?_ | refine BrG.pos (by omega) ?_ | refine BrG.neg (by omega) ?_ | with_reducible refine BrG.pos rfl ?_ | refine BrG.pos (by assumption) ?_ | refine BrG.neg (by assumption) ?_ | refine BrG.pos (by decide) ?_ | refine BrG.neg (by decide) ?_) | refine Chk.mk (ptr_ok tblOk rfl rfl) ?_ | refine Chk.mk (by decide) ?_ | refine hS.ldC rfl ?_ | refine hS.ldnC rfl ?_)
            repeat (first | refine SemW.run tblOk ?_ | refine IntG.nw (by omega) ?_ | refine IntG.nu8 (by omega) ?_ | refine IntG.nu32 (by omega) ?_ | refine IntG.nu64 (by omega) ?_ | refine IntG.wr' rfl ?_ | refine Chk.mk (by omega) ?_ | (refine BrG.id ?_; first | with_reducible refine BrG.t ?_ | with_reducible refine BrG.f ?_ | with_reducible refine BrG.notG ?_ | with_reducible refine BrG.nn ?_ | with_reducible refine BrG.ns ?_ | refine BrG.pos (by omega) ?_ | refine BrG.neg (by omega) ?_ | with_reducible refine BrG.pos rfl ?_ | refine BrG.pos (by assumption) ?_ | refine BrG.neg (by assumption) ?_ | refine BrG.pos (by decide) ?_ | refine BrG.neg (by decide) ?_) | refine Chk.mk (ptr_ok tblOk rfl rfl) ?_ | refine Chk.mk (by decide) ?_ | refine hS.ld rfl ?_ | refine hS.ldn rfl ?_ | (refine hS.st rfl rfl ?_; intro _ hS))
            exact ⟨⟨n2 + 1, k2⟩, ⟨rfl, rfl, rfl, rfl, rfl, trivial⟩, ⟨⟨by simp only; omega, ⟨x1, hx1, by simp only; omega⟩, fun z hz => hgt z hz⟩, hS.nil⟩, by simp only; omega⟩
        · have hgt : ∀ z, l[k2 + 1]? = some z → n2 < z.e := fun z hz => by
            have := (List.getElem?_eq_some_iff.1 hz).1
            omega
          repeat (first | refine SemW.run tblOk ?_ | refine IntG.nw (by omega) ?_ | refine IntG.nu8 (by omega) ?_ | refine IntG.nu32 (by omega) ?_ | refine IntG.nu64 (by omega) ?_ | refine IntG.wr' rfl ?_ | refine Chk.mk (by omega) ?_ | (refine BrG.id ?_; first | with_reducible refine BrG.t ?_ | with_reducible refine BrG.f ?_ | with_reducible refine BrG.notG ?_ | with_reducible refine BrG.nn ?_ | with_reducible refine BrG.ns ?_ | refine BrG.pos (by omega) ?_ | refine BrG.neg (by omega) ?_ | with_reducible refine BrG.pos rfl ?_ | refine BrG.pos (by assumption) ?_ | refine BrG.neg (by assumption) ?_ | refine BrG.pos (by decide) ?_ | refine BrG.neg (by decide) ?_) | refine Chk.mk (ptr_ok tblOk rfl rfl) ?_ | refine Chk.mk (by decide) ?_ | refine hS.ld rfl ?_ | refine hS.ldn rfl ?_ | (refine hS.st rfl rfl ?_; intro _ hS))
          refine Cl.mono (Read_spec (t := t.take n2) (by rw [List.length_take]; omega)) ?_
          rintro _ w8 ⟨v2, e2, a2, c2, L2, rfl, hv2, hS', hrd2, hk2', hl2⟩
          have hu := (cut_law hch h1 hx1 hle1 hgt).unique hrd2
          simp only [Prod.mk.injEq] at hu
          obtain ⟨hu1, hu2⟩ := hu
          subst hu2
          have hS := hS.callNew hS'
          have hce := cE_at hx1
          have hcv := cV_at hx1
          have hvo := hold x1 (List.mem_of_getElem? hx1)
          have hfl2 : v2.files.length ≤ 16777216 := by rw [List.length_take] at hl2; omega
          unfold versC
          repeat (first | refine SemW.run tblOk ?_ | refine IntG.nw (by omega) ?_ | refine IntG.nu8 (by omega) ?_ | refine IntG.nu32 (by omega) ?_ | refine IntG.nu64 (by omega) ?_ | refine IntG.wr' rfl ?_ | refine Chk.mk (by omega) ?_ | (refine BrG.id ?_; first | with_reducible refine BrG.t ?_ | with_reducible refine BrG.f ?_ | with_reducible refine BrG.notG ?_ | with_reducible refine BrG.nn ?_ | with_reducible refine BrG.ns ?_ | refine BrG.pos (by omega) ?_ | refine BrG.neg (by omega) ?_ | with_reducible refine BrG.pos rfl ?_ | refine BrG.pos (by assumption) ?_ | refine BrG.neg (by assumption) ?_ | refine BrG.pos (by decide) ?_ | refine BrG.neg (by decide) ?_) | refine Chk.mk (ptr_ok tblOk rfl rfl) ?_ | refine Chk.mk (by decide) ?_ | refine hS.ld rfl ?_ | refine hS.ldn rfl ?_ | (refine hS.st rfl rfl ?_; intro _ hS))
          refine hS.al ?_
          intro b17 w9 _ hS
          repeat (first | refine SemW.run tblOk ?_ | refine IntG.nw (by omega) ?_ | refine IntG.nu8 (by omega) ?_ | refine IntG.nu32 (by omega) ?_ | refine IntG.nu64 (by omega) ?_ | refine IntG.wr' rfl ?_ | refine Chk.mk (by omega) ?_ | (refine BrG.id ?_; first | with_reducible refine BrG.t ?_ | with_reducible refine BrG.f ?_ | with_reducible refine BrG.notG ?_ | with_reducible refine BrG.nn ?_ | with_reducible refine BrG.ns ?_ | refine BrG.pos (by omega) ?_ | refine BrG.neg (by omega) ?_ | with_reducible refine BrG.pos rfl ?_ | refine BrG.pos (by assumption) ?_ | refine BrG.neg (by assumption) ?_ | refine BrG.pos (by decide) ?_ | refine BrG.neg (by decide) ?_) | refine Chk.mk (ptr_ok tblOk rfl rfl) ?_ | refine Chk.mk (by decide) ?_ | refine hS.ld rfl ?_ | refine hS.ldn rfl ?_ | (refine hS.st rfl rfl ?_; intro _ hS))
          refine SemW.draw tblOk mixed (fun w' => St w6 [] ((b17, .cells ⟨[.slice a2 v2.files.length c2, .int .i64 v2.wal, .int .i64 v2.next, .int .i64 v2.seq]⟩ T_api_Version (0, 0)) :: (L2 ++ [])) w') [12, 13, 14] [0, 1, 2, 3, 4, 5, 6, 7, 8, 9, 10, 11, 12, 13, 14] (by kernel_rfl) hS.drew ?_
          have hS := hS.drew
          generalize w9.drew = w9 at hS
          repeat (first | refine SemW.run tblOk ?_ | refine IntG.nw (by omega) ?_ | refine IntG.nu8 (by omega) ?_ | refine IntG.nu32 (by omega) ?_ | refine IntG.nu64 (by omega) ?_ | refine IntG.wr' rfl ?_ | refine Chk.mk (by omega) ?_ | (refine BrG.id ?_; first | with_reducible refine BrG.t ?_ | with_reducible refine BrG.f ?_ | with_reducible refine BrG.notG ?_ | with_reducible refine BrG.nn ?_ | with_reducible refine BrG.ns ?_ | refine BrG.pos (by omega) ?_ | refine BrG.neg (by omega) ?_ | with_reducible refine BrG.pos rfl ?_ | refine BrG.pos (by assumption) ?_ | refine BrG.neg (by assumption) ?_ | refine BrG.pos (by decide) ?_ | refine BrG.neg (by decide) ?_) | refine Chk.mk (ptr_ok tblOk rfl rfl) ?_ | refine Chk.mk (by decide) ?_ | refine hS.ldC rfl ?_ | refine hS.ldnC rfl ?_)
          refine Arr.ldcC hEs hce (by omega) ?_
          repeat (first | refine SemW.run tblOk ?_ | refine IntG.nw (by omega) ?_ | refine IntG.nu8 (by omega) ?_ | refine IntG.nu32 (by omega) ?_ | refine IntG.nu64 (by omega) ?_ | refine IntG.wr' rfl ?_ | refine Chk.mk (by omega) ?_ | (refine BrG.id ?_; first | with_reducible refine BrG.t ?_ | with_reducible refine BrG.f ?_ | with_reducible refine BrG.notG ?_ | with_reducible refine BrG.nn ?_ | with_reducible refine BrG.ns ?_ | refine BrG.pos (by omega) ?_ | refine BrG.neg (by omega) ?_ | with_reducible refine BrG.pos rfl ?_ | refine BrG.pos (by assumption) ?_ | refine BrG.neg (by assumption) ?_ | refine BrG.pos (by decide) ?_ | refine BrG.neg (by decide) ?_) | refine Chk.mk (ptr_ok tblOk rfl rfl) ?_ | refine Chk.mk (by decide) ?_ | refine hS.ldC rfl ?_ | refine hS.ldnC rfl ?_)
          refine Arr.ldnC hVs hcv rfl (by omega) ?_
          repeat (first | refine SemW.run tblOk ?_ | refine IntG.nw (by omega) ?_ | refine IntG.nu8 (by omega) ?_ | refine IntG.nu32 (by omega) ?_ | refine IntG.nu64 (by omega) ?_ | refine IntG.wr' rfl ?_ | refine Chk.mk (by omega) ?_ | (refine BrG.id ?_; first | with_reducible refine BrG.t ?_ | with_reducible refine BrG.f ?_ | with_reducible refine BrG.notG ?_ | with_reducible refine BrG.nn ?_ | with_reducible refine BrG.ns ?_ | refine BrG.pos (by omega) ?_ | refine BrG.neg (by omega) ?_ | with_reducible refine BrG.pos rfl ?_ | refine BrG.pos (by assumption) ?_ | refine BrG.neg (by assumption) ?_ | refine BrG.pos (by decide) ?_ | refine BrG.neg (by decide) ?_) | refine Chk.mk (ptr_ok tblOk rfl rfl) ?_ | refine Chk.mk (by decide) ?_ | refine hS.ldC rfl ?_ | refine hS.ldnC rfl ?_)
          refine (Same_spec (hv2.at hS) (hvo.keep hS.nil) hfl2).mono ?_
          rintro _ w10 ⟨rfl, hS'⟩
          have hS := hS.call0 hS'
          rw [decide_eq_true hu1.symm]
          repeat (first | refine SemW.run tblOk ?_ | refine IntG.nw (by omega) ?_ | refine IntG.nu8 (by omega) ?_ | refine IntG.nu32 (by omega) ?_ | refine IntG.nu64 (by omega) ?_ | refine IntG.wr' rfl ?_ | refine Chk.mk (by omega) ?_ | (refine BrG.id ?_; first | with_reducible refine BrG.t ?_ | with_reducible refine BrG.f ?_ | with_reducible refine BrG.notG ?_ | with_reducible refine BrG.nn ?_ | with_reducible refine BrG.ns ?_ | refine BrG.pos (by omega) ?_ | refine BrG.neg (by omega) ?_ | with_reducible refine BrG.pos rfl ?_ | refine BrG.pos (by assumption) ?_ | refine BrG.neg (by assumption) ?_ | refine BrG.pos (by decide) ?_ | refine BrG.neg (by decide) ?_) | refine Chk.mk (ptr_ok tblOk rfl rfl) ?_ | refine Chk.mk (by decide) ?_ | refine hS.ldC rfl ?_ | refine hS.ldnC rfl ?_)
          repeat (first | refine SemW.run tblOk ?_ | refine IntG.nw (by omega) ?_ | refine IntG.nu8 (by omega) ?_ | refine IntG.nu32 (by omega) ?_ | refine IntG.nu64 (by omega) ?_ | refine IntG.wr' rfl ?_ | refine Chk.mk (by omega) ?_ | (refine BrG.id ?_; first | with_reducible refine BrG.t ?_ | with_reducible refine BrG.f ?_ | with_reducible refine BrG.notG ?_ | with_reducible refine BrG.nn ?_ | with_reducible refine BrG.ns ?_ | refine BrG.pos (by omega) ?_ | refine BrG.neg (by omega) ?_ | with_reducible refine BrG.pos rfl ?_ | refine BrG.pos (by assumption) ?_ | refine BrG.neg (by assumption) ?_ | refine BrG.pos (by decide) ?_ | refine BrG.neg (by decide) ?_) | refine Chk.mk (ptr_ok tblOk rfl rfl) ?_ | refine Chk.mk (by decide) ?_ | refine hS.ld rfl ?_ | refine hS.ldn rfl ?_ | (refine hS.st rfl rfl ?_; intro _ hS))
          exact ⟨⟨n2 + 1, k2⟩, ⟨rfl, rfl, rfl, rfl, rfl, trivial⟩, ⟨⟨by simp only; omega, ⟨x1, hx1, by simp only; omega⟩, fun z hz => hgt z hz⟩, hS.nil⟩, by simp only; omega⟩
      · repeat (first | refine SemW.run tblOk ?_ | refine IntG.nw (by omega) ?_ | refine IntG.nu8 (by omega) ?_ | refine IntG.nu32 (by omega) ?_ | refine IntG.nu64 (by omega) ?_ | refine IntG.wr' rfl ?_ | refine Chk.mk (by omega) ?_ | (refine BrG.id ?_; first | with_reducible refine BrG.t ?_ | with_reducible refine BrG.f ?_ | with_reducible refine BrG.notG ?_ | with_reducible refine BrG.nn ?_ | with_reducible refine BrG.ns ?_ | refine BrG.pos (by omega) ?_ | refine BrG.neg (by omega) ?_ | with_reducible refine BrG.pos rfl ?_ | refine BrG.pos (by assumption) ?_ | refine BrG.neg (by assumption) ?_ | refine BrG.pos (by decide) ?_ | refine BrG.neg (by decide) ?_) | refine Chk.mk (ptr_ok tblOk rfl rfl) ?_ | refine Chk.mk (by decide) ?_ | refine hS.ld rfl ?_ | refine hS.ldn rfl ?_ | (refine hS.st rfl rfl ?_; intro _ hS))
        exact ⟨rfl, (hS0.call0 hS).nil⟩
    · repeat (first | refine SemW.run tblOk ?_ | refine IntG.nw (by omega) ?_ | refine IntG.nu8 (by omega) ?_ | refine IntG.nu32 (by omega) ?_ | refine IntG.nu64 (by omega) ?_ | refine IntG.wr' rfl ?_ | refine Chk.mk (by omega) ?_ | (refine BrG.id ?_; first | with_reducible refine BrG.t ?_ | with_reducible refine BrG.f ?_ | with_reducible refine BrG.notG ?_ | with_reducible refine BrG.nn ?_ | with_reducible refine BrG.ns ?_ | refine BrG.pos (by omega) ?_ | refine BrG.neg (by omega) ?_ | with_reducible refine BrG.pos rfl ?_ | refine BrG.pos (by assumption) ?_ | refine BrG.neg (by assumption) ?_ | refine BrG.pos (by decide) ?_ | refine BrG.neg (by decide) ?_) | refine Chk.mk (ptr_ok tblOk rfl rfl) ?_ | refine Chk.mk (by decide) ?_ | refine hS.ld rfl ?_ | refine hS.ldn rfl ?_ | (refine hS.st rfl rfl ?_; intro _ hS))
      exact ⟨rfl, (hS0.call0 hS).nil⟩
end Go.Proofs.YtkncpdehgcldbaaDoor
