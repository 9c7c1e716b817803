/- Texts of this claim, one behind the other. -/
import Derived.Test.YtinkmidjbdnibaaGreatDoorZ1
import Derived.Test.YtinkmidjbdnibaaGreatDoorZ0
import Derived.Lib.UnsafeStr
import Derived.Lib.MakeNoZero
import Derived.Lib.Builder
import Derived.Lib.Bytealg
import Derived.Laws.MakeOwn
import Derived.Laws.CopyRow
import Derived.Laws.StructEq
import Derived.ChangeKeysEq
namespace Go.Proofs.YtinkmidjbdnibaaGreatDoor
open Go Go.Eng Go.Proofs
theorem rMarks_codec (k : Nat) (hk : k ≤ 8) : Codec (rMarks k) (fun l => numB (marksN l)) (fun l => l.length = k) := by
  have hp : 2 ^ k ≤ 2 ^ 8 := Nat.pow_le_pow_right (by omega) hk
  refine ⟨fun s h => ?_, fun a r ha => ?_⟩
  · unfold rMarks at h ⊢
    simp only [Bool.or_eq_false_iff, decide_eq_false_iff_not] at h
    obtain ⟨h1, h2⟩ := h
    have h1' := h1
    unfold rbNum at h1'
    simp only [Bool.or_eq_false_iff, decide_eq_false_iff_not, Decidable.not_not] at h1'
    refine ⟨h1'.1, ?_, bitsN_len _ _⟩
    simp only
    rw [marks_bits k _ (by omega)]
    exact numO_ok h1'.2
  · have hl := marksN_lt a
    rw [ha] at hl
    unfold rMarks
    rw [rbNum_app _ _ (by omega)]
    simp only [← ha]
    rw [bits_marksN, decide_eq_false (by rw [ha]; omega)]
    rfl
def rRow (s : RB) : RowM × RB := tk (wInts 3 s) fun l s => tk (rMarks 1 s) fun m s => tk (wText s) fun x s => (⟨l.getD 0 0, l.getD 1 0, l.getD 2 0, m.getD 0 false, x⟩, s)
def rRows : Nat → RB × List RowM → RB × List RowM
  | 0, x => x
  | n + 1, (s, l) => if s.bad = true then (s, l) else rRows n ((rRow s).2, l ++ [(rRow s).1])
def rRowsT (s : RB) : RB × List RowM := rRows (rbNum s).1 ((rbNum s).2, [])
def rPax (s : RB) (id : Int) : PaxM × RB := tk (wInts 6 s) fun l s => tk (rMarks 4 s) fun m s => tk (wText s) fun x s =>
  (⟨id, l.getD 0 0, l.getD 1 0, m.getD 0 false, m.getD 1 false, m.getD 2 false, m.getD 3 false, l.getD 2 0, l.getD 3 0, l.getD 4 0, l.getD 5 0, (parseO x).1, (parseO x).2.1⟩,
   ⟨s.t, s.bad || (!(parseO x).2.2 && decide (x ≠ []))⟩)
def rFl (s : RB) (id : Int) : FlightM × RB := tk (wInts 3 s) fun l s => tk (wInts 4 s) fun x s => (⟨id, l.getD 0 0, l.getD 1 0, l.getD 2 0, x.getD 0 0, x.getD 1 0, x.getD 2 0, x.getD 3 0⟩, s)
def RowFit (r : RowM) : Prop := r.ok ∧ r.seats.length < 18446744073709551616
theorem rRow_codec : Codec rRow rowB RowFit where
  good s h := by
    unfold rRow tk at h ⊢
    simp only at h ⊢
    obtain ⟨h3, e3, o3⟩ := wText_codec.good _ h
    obtain ⟨h2, e2, o2⟩ := (rMarks_codec 1 (by omega)).good _ h3
    obtain ⟨h1, e1, o1⟩ := (wInts_codec 3).good _ h2
    refine ⟨h1, ?_, ⟨⟨getD_ok o1.2 0, getD_ok o1.2 1, getD_ok o1.2 2⟩, o3⟩⟩
    unfold rowB textsB
    simp only [List.map_cons, List.map_nil, List.flatten_cons, List.flatten_nil, List.append_nil]
    rw [← lst3 0 o1.1, ← lst1 false o2]
    conv => lhs; rw [e1, e2, e3]
    simp only [List.append_assoc]
  app a r h := by
    have e : rowB a ++ r = intsB [a.num, a.cab, a.zone] ++ (numB (marksN [a.exit]) ++ (textB a.seats ++ r)) := by simp [rowB, textsB]
    rw [e]
    unfold rRow tk
    rw [(wInts_codec 3).app _ _ (all3 h.1.num h.1.cab h.1.zone)]
    simp only
    rw [(rMarks_codec 1 (by omega)).app _ _ rfl]
    simp only
    rw [wText_codec.app _ _ h.2]
    rfl
theorem rRows_good : ∀ (n : Nat) (s : RB) (l : List RowM), (rRows n (s, l)).1.bad = false → s.bad = false ∧ ∃ m, (rRows n (s, l)).2 = l ++ m ∧ m.length = n ∧ s.t = rowsBt m ++ (rRows n (s, l)).1.t ∧ ∀ r ∈ m, RowFit r
  | 0, s, l, h => ⟨h, [], by simp [rRows], rfl, by simp [rRows, rowsBt], by nofun⟩
  | n + 1, s, l, h => by
    unfold rRows at h ⊢
    by_cases hb : s.bad = true
    · rw [if_pos hb] at h
      rw [hb] at h; cases h
    · rw [if_neg hb] at h ⊢
      obtain ⟨h1, m, e1, e2, e3, h2⟩ := rRows_good n _ _ h
      obtain ⟨h3, e4, h4⟩ := rRow_codec.good s h1
      refine ⟨h3, (rRow s).1 :: m, by rw [e1]; simp, by rw [List.length_cons, e2], ?_, fun r hr => ?_⟩
      · rw [e4, e3]; simp [rowsBt]
      · rcases List.mem_cons.1 hr with rfl | hr
        · exact h4
        · exact h2 r hr
theorem rRows_app : ∀ (m : List RowM) (r : Bytes) (l : List RowM), (∀ x ∈ m, RowFit x) → rRows m.length (⟨rowsBt m ++ r, false⟩, l) = (⟨r, false⟩, l ++ m)
  | [], r, l, _ => by simp [rRows, rowsBt]
  | f :: m, r, l, h => by
    rw [List.length_cons]
    unfold rRows
    rw [if_neg nofun]
    have e : rowsBt (f :: m) ++ r = rowB f ++ (rowsBt m ++ r) := by simp [rowsBt]
    rw [e, rRow_codec.app f _ (h f List.mem_cons_self)]
    simp only
    rw [rRows_app m r _ fun g hg => h g (List.mem_cons_of_mem _ hg)]
    simp
theorem rMarks_t (k : Nat) (s : RB) : (rMarks k s).2.t.length ≤ s.t.length := rbNum_t s
theorem rRow_dec {s : RB} (h : s.bad = false) : (rRow s).2.t.length + 1 ≤ s.t.length + bitW (rRow s).2.bad := by
  have h2 := rbInt_t (rbInt s).2
  have h3 := rbInt_t (rbInt (rbInt s).2).2
  have h4 := rMarks_t 1 (rbInt (rbInt (rbInt s).2).2).2
  have h5 := wText_tlen (rMarks 1 (rbInt (rbInt (rbInt s).2).2).2).2
  have e0 : (rRow s).2 = (wText (rMarks 1 (rbInt (rbInt (rbInt s).2).2).2).2).2 := rfl
  have e1 : (rbInt s).2.t = (intO s.t).2.2 := rfl
  have hle : (rRow s).2.t.length ≤ (intO s.t).2.2.length := by rw [e0, ← e1]; omega
  by_cases hb : (intO s.t).2.1 = 0
  · have h6 := intO_len' hb
    omega
  · have h7 := intO_len s.t
    have hbad : (rRow s).2.bad = true := by
      rw [e0]
      unfold wText rMarks rbNum rbInt
      simp [hb]
    rw [hbad]
    show _ + 1 ≤ _ + 1
    omega
theorem rRows_go (n : Nat) (s : RB) (l : List RowM) (h : s.bad = false) : rRows (n + 1) (s, l) = rRows n ((rRow s).2, l ++ [(rRow s).1]) := by
  rw [rRows, if_neg (by rw [h]; decide)]
theorem rRows_halt (n : Nat) (s : RB) (l : List RowM) (h : s.bad = true) : rRows n (s, l) = (s, l) := by
  cases n with
  | zero => rfl
  | succ n => rw [rRows, if_pos h]
structure RowsFine (m : List RowM) : Prop where
  rows : ∀ r ∈ m, RowFit r
  len : m.length < 18446744073709551616
theorem rRowsT_codec : Codec (fun s => ((rRowsT s).2, (rRowsT s).1)) (fun m => numB m.length ++ rowsBt m) RowsFine where
  good s h := by
    simp only at h ⊢
    unfold rRowsT at h ⊢
    obtain ⟨h1, m, e1, e2, e3, h2⟩ := rRows_good _ _ _ h
    have h1' := h1
    unfold rbNum at h1'
    simp only [Bool.or_eq_false_iff, decide_eq_false_iff_not, Decidable.not_not] at h1'
    have hn := numO_lt s.t
    rw [List.nil_append] at e1
    have e4 : (rbNum s).1 = (numO s.t).1 := rfl
    rw [e1]
    refine ⟨h1'.1, ?_, ⟨h2, by rw [e2]; exact hn⟩⟩
    rw [e2, List.append_assoc, ← e3]
    exact numO_ok h1'.2
  app a r h := by
    unfold rRowsT
    rw [List.append_assoc, rbNum_app _ _ h.len]
    simp only
    rw [rRows_app _ _ _ h.rows]
    rfl
theorem rFl_codec (id : Int) (hid : i64ok id) : Codec (fun s => rFl s id) flightB (fun f => f.ok ∧ f.id = id) where
  good s h := by
    unfold rFl tk at h ⊢
    simp only at h ⊢
    obtain ⟨h2, e2, o2⟩ := (wInts_codec 4).good _ h
    obtain ⟨h1, e1, o1⟩ := (wInts_codec 3).good _ h2
    refine ⟨h1, ?_, ⟨⟨hid, getD_ok o1.2 0, getD_ok o1.2 1, getD_ok o1.2 2, getD_ok o2.2 0, getD_ok o2.2 1, getD_ok o2.2 2, getD_ok o2.2 3⟩, trivial⟩⟩
    unfold flightB
    simp only
    rw [← lst3 0 o1.1, ← lst4 0 o2.1]
    conv => lhs; rw [e1, e2]
    simp only [List.append_assoc]
  app a r h := by
    obtain ⟨h, rfl⟩ := h
    unfold rFl tk flightB
    rw [List.append_assoc, (wInts_codec 3).app _ _ (all3 h.equip h.phase h.seq)]
    simp only
    rw [(wInts_codec 4).app _ _ (all4 h.l0 h.l1 h.l2 h.l3)]
    rfl
theorem rPax_codec (id : Int) (hid : i64ok id) : Codec (fun s => rPax s id) paxB (fun p => (p.ok ∧ seatGood p.num p.c = true) ∧ p.id = id) where
  good s h := by
    unfold rPax tk at h ⊢
    simp only at h ⊢
    simp only [Bool.or_eq_false_iff] at h
    obtain ⟨h, hp⟩ := h
    obtain ⟨h3, e3, o3⟩ := wText_codec.good _ h
    obtain ⟨h2, e2, o2⟩ := (rMarks_codec 4 (by omega)).good _ h3
    obtain ⟨h1, e1, o1⟩ := (wInts_codec 6).good _ h2
    generalize (wText (rMarks 4 (wInts 6 s).2).2).1 = x at hp e3 o3
    have hok := parseO_ok x
    have hx : seatB (parseO x).1 (parseO x).2.1 = x ∧ seatGood (parseO x).1 (parseO x).2.1 = true := by
      by_cases hx0 : x = []
      · subst hx0; exact ⟨rfl, by decide⟩
      · rw [decide_eq_true hx0, Bool.and_true, Bool.not_eq_false'] at hp
        unfold parseO at hp ⊢
        cases hpb : parseB x with
        | none => rw [hpb] at hp; cases hp
        | some z =>
          obtain ⟨n, c⟩ := z
          have hs : seatS x = some (n, c) := by unfold seatS; rw [if_neg hx0, hpb]
          obtain ⟨s1, s2, -, -⟩ := seatS_some hs
          exact ⟨s1, s2⟩
    refine ⟨h1, ?_, ⟨⟨⟨hid, getD_ok o1.2 0, getD_ok o1.2 1, getD_ok o1.2 2, getD_ok o1.2 3, getD_ok o1.2 4, getD_ok o1.2 5, hok.1, hok.2⟩, hx.2⟩, trivial⟩⟩
    unfold paxB
    simp only
    rw [← lst6 0 o1.1, ← lst4 false o2, hx.1]
    conv => lhs; rw [e1, e2, e3]
    simp only [List.append_assoc]
  app a r h := by
    obtain ⟨⟨hp, hs⟩, rfl⟩ := h
    have hl := seatB_len a.num a.c
    obtain ⟨e1, e2, e3⟩ := parseO_seat hs
    unfold rPax tk paxB
    rw [List.append_assoc, List.append_assoc, (wInts_codec 6).app _ _ (all6 hp.flight hp.cab hp.cls hp.status hp.tick hp.pass)]
    simp only
    rw [(rMarks_codec 4 (by omega)).app _ _ rfl]
    simp only
    rw [wText_codec.app _ _ (by omega)]
    simp only
    rw [e1, e2, e3]
    rfl
inductive Bld (b : Nat) (s : List UInt8) : Heap → Prop where
  | mk (p : Value) (hp : p = .pointer none ∨ p = ptr b) (a : Option Addr) (cap : Nat) (L : Heap) (hv : Vec T_uint8 1 a s.length cap (s.map byteV) L) :
    Bld b s ((b, .cells ⟨[p, .slice a s.length cap]⟩ T_order_builder (0, 0)) :: L)
theorem Bld.new (b : Nat) : Bld b [] [(b, .cells ⟨[.pointer none, .slice none 0 0]⟩ T_order_builder (0, 0))] := Bld.mk _ (.inl rfl) none 0 [] Vec.nil
theorem run_NoEscape (v : Value) (w : World) : (callFunc f_internal_abi_NoEscape ⟨[v]⟩).run Tryz.prog w = .ok (.value v) w := by
  rw [run_callFunc_extern func_internal_abi_NoEscape (by kernel_rfl) (by kernel_rfl) (by kernel_rfl) (e := Extern.AbiNoEscape.same) (by kernel_rfl)]
  rfl
theorem und_unsafe : Tryz.prog.underlying T_unsafe_Pointer = some .unsafePointer := by kernel_rfl
theorem liesBuilder : liesAt Tryz.prog Tryz.prog.depth T_order_builder (2 / Tryz.prog.cellsOf T_order_builder) 0 T_strings_Builder 1 = true := by kernel_rfl
theorem copyCheck_spec {w : World} {b n cap : Nat} {p : Value} {a : Option Addr} {L1 : Heap} (hp : p = .pointer none ∨ p = ptr b)
    (hh : Holds ((b, .cells ⟨[p, .slice a n cap]⟩ T_order_builder (0, 0)) :: L1) w) :
    Cl Tryz.prog f_strings_Builder_copyCheck [ptr b] w fun v w' => v = .tuple ⟨[]⟩ ∧ St w (b :: keys L1) ((b, .cells ⟨[ptr b, .slice a n cap]⟩ T_order_builder (0, 0)) :: L1) w' := by
  have hS : St w (b :: keys L1) _ w := St.enter hh
  have hsh : w.shape? b = some (T_order_builder, 2) := by
    have := hS.mem (b := b)
    simp [World.shape?, this]
  obtain ⟨inf, hinf, -, hsz, -⟩ := info_of tblOk (t := T_strings_Builder) rfl
  refine en_strings_Builder_copyCheck rfl ?_
  rcases hp with rfl | rfl
  · (repeat (refine jt ⟨?_⟩; refine hS.st rfl rfl ?_; intro _ hS)); refine jt ⟨?_⟩
    refine RunG.of (Lib.run_to_unsafe w ⟨b, 0, none⟩ (und_of tblOk (t := T_Ptr_strings_Builder) rfl) und_unsafe hinf (by rw [hsz]; nofun) hsh (Nat.zero_lt_succ 1)) ?_
    refine Or.inr ⟨_, _, run_NoEscape _ _, ?_⟩
    refine RunG.of (Lib.run_from_unsafe w ⟨b, 0, none⟩ und_unsafe (und_of tblOk (t := T_Ptr_strings_Builder) rfl) hinf hsh liesBuilder) ?_
    (repeat (refine jt ⟨?_⟩; refine hS.st rfl rfl ?_; intro _ hS)); refine jt ⟨?_⟩
    exact ⟨rfl, hS⟩
  · (repeat (refine jt ⟨?_⟩; refine hS.st rfl rfl ?_; intro _ hS)); refine jt ⟨?_⟩
    refine PureRun.mk ⟨.bool false, fun w => ?_, ?_⟩
    · have := Lib.run_neq_ptr_same (P := Tryz.prog) w ⟨b, 0, none⟩ (und_of tblOk (t := T_Ptr_strings_Builder) rfl) hinf
      simp only [Sem.run_bind, run_eqGuard_of Tryz.prog .neq T_Ptr_strings_Builder _ _ (ptr b) (ptr b) w nofun nofun, Result.andThen_ok]
      exact this
    · (repeat (refine jt ⟨?_⟩; refine hS.st rfl rfl ?_; intro _ hS)); refine jt ⟨?_⟩
      exact ⟨rfl, hS⟩
theorem WriteString_spec {w : World} {b : Nat} {s t : List UInt8} {L : Heap} (hL : Bld b s L) (hh : Holds L w) (hlen : s.length + t.length ≤ 140737488355328) :
    Cl Tryz.prog f_strings_Builder_WriteString [ptr b, Str t] w fun v w' => v = .tuple ⟨[.int .i64 t.length, .nilIface]⟩ ∧ ∃ L', Bld b (s ++ t) L' ∧ St w (keys L) L' w' := by
  obtain ⟨p, hp, a, cap, L1, hv⟩ := hL
  refine en_strings_Builder_WriteString rfl ?_
  refine jq ⟨?_⟩
  refine (copyCheck_spec hp hh).mono ?_
  rintro _ w1 ⟨rfl, hS⟩
  (repeat (refine jt ⟨?_⟩; refine hS.st rfl rfl ?_; intro _ hS)); refine jt ⟨?_⟩
  refine St.appStr tblOk rfl rfl rfl rfl rfl rfl hS hv (by show (_ + _) * 1 ≤ _; omega) (by omega) ?_
  intro a' cap' L' w2 hv' hS
  (repeat (refine jt ⟨?_⟩; refine hS.st rfl rfl ?_; intro _ hS)); refine jt ⟨?_⟩
  refine ⟨rfl, _, Bld.mk (ptr b) (.inr rfl) a' cap' L' ?_, ?_⟩
  · simpa using hv'
  · rw [List.length_append]; exact hS
theorem shape_of {w : World} {g : Nat} {l : List Value} {e : TypeId} {fz : Nat × Nat} (h : w.heap[g]? = some (.cells ⟨l⟩ e fz)) : w.shape? g = some (e, l.length) := by
  simp [World.shape?, h]
theorem cellsByte : Tryz.prog.cellsOf T_uint8 = 1 := by kernel_rfl
theorem mem_keys' {H : Heap} {p : Nat × Obj} (h : p ∈ H) : p.1 ∈ keys H := List.mem_map_of_mem h
theorem frozen_drop {w0 w : World} {T : List Nat} {g : Nat} {o : Obj} {H : Heap} (hS : St w0 T ((g, o) :: H) w) (a : Addr) (ha : a.block = g) (n : Nat) : St w0 T H (w.freeze a n) := by
  unfold World.freeze
  split
  · exact hS.sub (List.sublist_cons_self _ _)
  · refine ⟨hS.os, hS.tape, hS.output, by simpa using hS.size, fun b hb hT => ?_, fun p hp => ?_, (List.nodup_cons.1 hS.nd).2, fun p hp => hS.fresh p (List.mem_cons_of_mem _ hp)⟩
    · have hne : g ≠ b := fun e => by subst e; exact hT (hS.fresh _ List.mem_cons_self hb)
      simp only [Array.getElem?_modify, ha]
      rw [if_neg hne]; exact hS.old b hb hT
    · have hne : g ≠ p.1 := fun e => (List.nodup_cons.1 hS.nd).1 (by have := mem_keys' hp; rw [← e] at this; exact this)
      simp only [Array.getElem?_modify, ha]
      rw [if_neg hne]; exact hS.own p (List.mem_cons_of_mem _ hp)
theorem String_spec {w : World} {b : Nat} {s : List UInt8} {L : Heap} (hL : Bld b s L) (hh : Holds L w) (hlen : s.length ≤ 140737488355328) :
    Cl Tryz.prog f_strings_Builder_String [ptr b] w fun v w' => v = Str s ∧ St w (keys L) [] w' := by
  have hS := St.enter hh
  obtain ⟨p, hp, a, cap, L1, hv⟩ := hL
  refine en_strings_Builder_String rfl ?_
  refine jq ⟨?_⟩
  refine SemW.draw tblOk mixed (fun w' => St w (keys ((b, .cells ⟨[p, .slice a s.length cap]⟩ T_order_builder (0, 0)) :: L1)) ((b, .cells ⟨[p, .slice a s.length cap]⟩ T_order_builder (0, 0)) :: L1) w')
    [10, 11] [0, 1, 2, 3, 5, 6, 7, 8, 9, 4, 10, 11] (by kernel_rfl) hS.drew ?_
  refine jr ⟨?_⟩
  have hS := hS.drew
  generalize w.drew = w1 at hS ⊢
  -- the pointer to the bytes
  by_cases hs : s = []
  · subst hs
    have key : ∃ q w2, (Builtin.unsafeSliceData_ ⟨[T_Sl_uint8]⟩ T_Ptr_uint8 ⟨[.slice a 0 cap]⟩).run Tryz.prog w1 = .ok (.pointer q) w2 ∧ St w (keys ((b, .cells ⟨[p, .slice a 0 cap]⟩ T_order_builder (0, 0)) :: L1)) ((b, .cells ⟨[p, .slice a 0 cap]⟩ T_order_builder (0, 0)) :: L1) w2 := by
      cases hv with
      | nil => exact ⟨none, w1, rfl, hS⟩
      | row g n cap xs l hx hl hn =>
        by_cases hc : cap = 0
        · subst hc
          exact ⟨_, _, Lib.run_unsafeSliceData_zero w1 _ _ _ (und_of tblOk (t := T_Ptr_uint8) rfl) _ _ _ (shape_of (hS.mem (b := g))), (hS.alloc _).sub (List.sublist_cons_self _ _)⟩
        · exact ⟨_, w1, Lib.run_unsafeSliceData_row (P := Tryz.prog) w1 _ _ _ _ _ hc, hS⟩
    obtain ⟨q, w2, h1, hS⟩ := key
    refine RunG.of h1 ?_
    refine Chk.mk hS ?_
    refine RunG.of (Lib.run_unsafeString_none (P := Tryz.prog) w2 _ _ _ q) ?_
    refine jq ⟨?_⟩
    exact ⟨rfl, hS.nil⟩
  · rcases hv.inv with ⟨-, h0, -⟩ | ⟨g, l, rfl, hx, hl, hn, rfl⟩
    · exact absurd (List.length_eq_zero_iff.1 h0) hs
    · have hs0 : 0 < s.length := List.length_pos_iff.2 hs
      have hcap : cap ≠ 0 := by omega
      refine RunG.of (Lib.run_unsafeSliceData_row (P := Tryz.prog) w1 _ _ ⟨g, 0, none⟩ s.length cap hcap) ?_
      refine Chk.mk hS ?_
      refine RunG.of (Lib.run_unsafeString_row (P := Tryz.prog) w1 _ _ _ T_uint8 (und_of tblOk (t := T_Ptr_uint8) rfl) cellsByte g _ (shape_of (hS.mem (b := g))) s hs (by simp) (by omega) ?_) ?_
      · intro j x hx
        rw [Addr.add_eq, Nat.zero_add]
        refine hS.cell ?_
        have hlt : j < s.length := (List.getElem?_eq_some_iff.1 hx).1
        rw [List.getElem?_append_left (by simpa using hlt)]
        simp [hx, byteV]
      · refine jq ⟨?_⟩
        refine ⟨rfl, ?_⟩
        exact (frozen_drop (hS.perm (List.Perm.swap _ _ _)) ⟨g, 0, none⟩ rfl s.length).nil
theorem WriteByte_spec {w : World} {b : Nat} {s : List UInt8} {L : Heap} (hL : Bld b s L) (hh : Holds L w) (c : UInt8) (hlen : s.length + 1 ≤ 140737488355328) :
    Cl Tryz.prog f_strings_Builder_WriteByte [ptr b, byteV c] w fun _ w' => ∃ L', Bld b (s ++ [c]) L' ∧ St w (keys L) L' w' := by
  obtain ⟨p, hp, a, cap, L1, hv⟩ := hL
  unfold byteV
  refine en_strings_Builder_WriteByte rfl ?_
  refine jq ⟨?_⟩
  refine (copyCheck_spec hp hh).mono ?_
  rintro _ w1 ⟨rfl, hS⟩
  (repeat (refine jt ⟨?_⟩; refine hS.st rfl rfl ?_; intro _ hS)); refine jt ⟨?_⟩
  refine hS.al ?_
  intro r w2 _ hS
  (repeat (refine jt ⟨?_⟩; refine hS.st rfl rfl ?_; intro _ hS)); refine jt ⟨?_⟩
  refine St.app (sz := 1) (m := 1) tblOk rfl rfl rfl rfl hS hv (news := [c].map byteV) rfl (by have := hS.arr (b := r) (T' := []) (by simp); exact this) rfl (by show (_ + _) * 1 ≤ _; omega) (by omega) ?_
  intro a' cap' L' w3 hv' hS
  rw [← List.map_append] at hv'
  have hl : s.length + 1 = (s ++ [c]).length := by simp
  rw [hl] at hv' ⊢
  (repeat (refine jt ⟨?_⟩; refine hS.st rfl rfl ?_; intro _ hS)); refine jt ⟨?_⟩
  exact ⟨_, Bld.mk (ptr b) (.inr rfl) a' cap' L' hv', hS.sub (List.sublist_cons_self _ _)⟩
theorem be8_get' (n j : Nat) (hj : j < 8) : (be8 n)[j]? = some (UInt8.ofNat (n / 2 ^ (56 - 8 * j))) := by
  match j, hj with
  | 0, _ => rfl
  | 1, _ => rfl
  | 2, _ => rfl
  | 3, _ => rfl
  | 4, _ => rfl
  | 5, _ => rfl
  | 6, _ => rfl
  | 7, _ => simp [be8]
theorem take_snoc' (l : Bytes) (j : Nat) (x : UInt8) (h : l[j]? = some x) : l.take (j + 1) = l.take j ++ [x] := by
  obtain ⟨hj, rfl⟩ := List.getElem?_eq_some_iff.1 h
  exact List.take_succ_eq_append_getElem hj
theorem xor_top (a : Nat) (ha : a < 18446744073709551616) : a ^^^ 9223372036854775808 = if a < 9223372036854775808 then a + 9223372036854775808 else a - 9223372036854775808 := by
  have h1 : (a ^^^ 9223372036854775808) % 2 ^ 63 = a % 2 ^ 63 := by
    rw [Nat.xor_mod_two_pow, show 9223372036854775808 % 2 ^ 63 = 0 by decide, Nat.xor_zero]
  have h2 : (a ^^^ 9223372036854775808) / 2 ^ 63 = (a / 2 ^ 63) ^^^ 1 := by
    rw [Nat.xor_div_two_pow, show 9223372036854775808 / 2 ^ 63 = 1 by decide]
  generalize a ^^^ 9223372036854775808 = z at *
  have h3 : a / 2 ^ 63 = 0 ∨ a / 2 ^ 63 = 1 := by omega
  split
  · have : a / 2 ^ 63 = 0 := by omega
    rw [this] at h2
    have : z / 2 ^ 63 = 1 := h2
    omega
  · have : a / 2 ^ 63 = 1 := by omega
    rw [this] at h2
    have : z / 2 ^ 63 = 0 := h2
    omega
theorem unum_eq (n : Int) (hn : -9223372036854775808 ≤ n ∧ n ≤ 9223372036854775807) : xorI .u64 (IntKind.u64.wrap n) 9223372036854775808 = (unum n : Int) := by
  have hw : ∃ m : Nat, IntKind.u64.wrap n = (m : Int) ∧ m < 18446744073709551616 ∧ (0 ≤ n → (m : Int) = n) ∧ (n < 0 → (m : Int) = n + 18446744073709551616) := by
    by_cases h : 0 ≤ n
    · refine ⟨n.toNat, ?_, by omega, by omega, by omega⟩
      unfold IntKind.wrap; simp only [IntKind.signed, IntKind.bits]; simp; omega
    · refine ⟨(n + 18446744073709551616).toNat, ?_, by omega, by omega, by omega⟩
      unfold IntKind.wrap; simp only [IntKind.signed, IntKind.bits]; simp; omega
  obtain ⟨m, h1, h2, h3, h4⟩ := hw
  have hx := xorU .u64 rfl m 9223372036854775808 h2 (by decide)
  rw [show ((9223372036854775808 : Nat) : Int) = 9223372036854775808 from rfl] at hx
  rw [h1, hx, xor_top m h2]
  unfold unum
  split <;> omega
set_option maxHeartbeats 1000000 in
theorem number_spec {w : World} {b : Nat} {s : Bytes} {L : Heap} (hB : Bld b s L) (hh : Holds L w) (n : Int) (hn : -9223372036854775808 ≤ n ∧ n ≤ 9223372036854775807) (hlen : s.length ≤ 70368744177664) :
    Cl Tryz.prog f_order_builder_number [ptr b, .int .i64 n] w fun _ w' => ∃ L', Bld b (s ++ ([1] ++ be8 (unum n))) L' ∧ St w (keys L) L' w' := by
  have hu := unum_eq n hn
  have hul : unum n < 18446744073709551616 := by unfold unum; omega
  refine en_order_builder_number rfl ?_
  refine jq ⟨?_⟩
  rw [hu]
  refine jq ⟨?_⟩
  refine Cl.mono (WriteByte_spec hB hh 1 (by omega)) ?_
  rintro _ w1 ⟨L1, hB, hS⟩
  generalize hT : keys L = T0 at hS ⊢
  refine jq ⟨?_⟩
  refine SemW.loop (fun j : Nat => [(0, ptr b), (4, .int .u64 (unum n : Nat)), (5, .int .i64 (56 - 8 * (j : Int)))])
    (fun j w' => j ≤ 8 ∧ ∃ L, Bld b (s ++ [1] ++ (be8 (unum n)).take j) L ∧ St w T0 L w') (fun j => 8 - j) 0
    ⟨rfl, rfl, rfl, trivial⟩ ⟨Nat.zero_le _, L1, by simpa using hB, hS⟩ ?_
  rintro j w6 ⟨hj, L5, hB5, hS⟩
  by_cases hjl : j < 8
  · have hb := take_snoc' _ j _ (be8_get' (unum n) j hjl)
    have hsh : (56 - 8 * (j : Int)) = ((56 - 8 * j : Nat) : Int) := by omega
    have hbv : IntKind.u8.wrap (((unum n : Nat) : Int).fdiv (2 ^ min (56 - 8 * (j : Int)).toNat IntKind.u64.bits)) = (((UInt8.ofNat (unum n / 2 ^ (56 - 8 * j))).toNat : Nat) : Int) := by
      rw [show min (56 - 8 * (j : Int)).toNat IntKind.u64.bits = 56 - 8 * j by show min _ 64 = _; omega, fdivP, u8wrap]
    have hll : (s ++ [1] ++ (be8 (unum n)).take j).length ≤ s.length + 9 := by
      rw [List.length_append, List.length_append, List.length_take]; simp [be8]; omega
    refine jq ⟨?_⟩
    rw [hbv]
    refine Cl.mono (WriteByte_spec hB5 (hS.part (L := L5)) (UInt8.ofNat (unum n / 2 ^ (56 - 8 * j))) (by omega)) ?_
    rintro _ w8 ⟨L6, hB6, hS'⟩
    have hS := hS.call (L := L5) hS'
    rw [List.append_assoc, ← hb] at hB6
    refine jq ⟨?_⟩
    refine ⟨j + 1, ⟨rfl, rfl, ?_, trivial⟩, ⟨by omega, L6, hB6, hS⟩, by omega⟩
    show _ = (_ : Value)
    rw [show (56 - 8 * ((j + 1 : Nat) : Int)) = 56 - 8 * (j : Int) - 8 by omega]
  · have hj8 : j = 8 := by omega
    subst hj8
    refine jq ⟨?_⟩
    refine ⟨L5, ?_, hS⟩
    rw [List.append_assoc] at hB5
    exact hB5
theorem Cl.val {P : Program} {f : FuncId} {args : List Value} {w w' : World} {v : Value} {R : Value → World → Prop} (h : (callFunc f ⟨args⟩).run P w = .ok (.value v) w') (hr : R v w') : Cl P f args w R := .inr ⟨v, w', h, hr⟩
theorem run_CountString (s : Bytes) (w : World) : (callFunc f_internal_bytealg_CountString ⟨[Str s, .int .u8 0]⟩).run Tryz.prog w = .ok (.value (.int .i64 (Lib.countByte s 0))) w := by
  rw [run_callFunc_extern func_internal_bytealg_CountString (by kernel_rfl) (by kernel_rfl) (by kernel_rfl) (e := Extern.BytealgCount.count) (by kernel_rfl)]
  have := Lib.run_countString (P := Tryz.prog) ⟨⟨s⟩⟩ 0 w
  rw [show (Array.mk [Str s, Value.int IntKind.u8 0]) = #[Str s, .int .u8 0] from rfl]
  rw [this]
  rfl
set_option maxHeartbeats 1000000 in
theorem ReplaceAll_spec {w : World} {s : Bytes} (h0 : Lib.countByte s 0 = 0) : Cl Tryz.prog f_strings_ReplaceAll [Str s, Str [0], Str [0, 255]] w fun v w' => v = Str s ∧ St w [] [] w' := by
  have hS := St.start w
  refine en_strings_ReplaceAll rfl ?_
  refine jq ⟨?_⟩
  refine Cl.mono (P := Tryz.prog) (R := fun v w' => v = Str s ∧ St w [] [] w') ?_ ?_
  · refine en_strings_Replace rfl ?_
    refine jq ⟨?_⟩
    refine Cl.mono (P := Tryz.prog) (R := fun v w' => v = .int .i64 0 ∧ St w [] [] w') ?_ ?_
    · refine en_strings_Count rfl ?_
      refine jq ⟨?_⟩
      have hc := run_CountString s w
      rw [h0] at hc
      refine Cl.val hc ?_
      refine jq ⟨?_⟩
      exact ⟨rfl, hS⟩
    · rintro _ w1 ⟨rfl, hS⟩
      refine jq ⟨?_⟩
      exact ⟨rfl, hS⟩
  · rintro _ w1 ⟨rfl, hS⟩
    refine jq ⟨?_⟩
    exact ⟨rfl, hS⟩
set_option maxHeartbeats 1000000 in
theorem text_spec {w : World} {b : Nat} {s t : Bytes} {L : Heap} (hB : Bld b s L) (hh : Holds L w) (h0 : Lib.countByte t 0 = 0) (hlen : s.length + t.length ≤ 70368744177664) :
    Cl Tryz.prog f_order_builder_text [ptr b, Str t] w fun _ w' => ∃ L', Bld b (s ++ ([2] ++ t ++ [0, 0])) L' ∧ St w (keys L) L' w' := by
  refine en_order_builder_text rfl ?_
  refine jq ⟨?_⟩
  refine Cl.mono (WriteByte_spec hB hh 2 (by omega)) ?_
  rintro _ w1 ⟨L1, hB, hS⟩
  generalize hT : keys L = T0 at hS ⊢
  refine jq ⟨?_⟩
  refine SemW.draw tblOk mixed (fun w' => St w T0 L1 w') [5] [0, 1, 2, 3, 4, 5] (by kernel_rfl) hS.drew ?_
  have hS := hS.drew
  refine jr ⟨?_⟩
  refine Cl.mono (ReplaceAll_spec h0) ?_
  rintro _ w2 ⟨rfl, hS'⟩
  have hS := hS.call0 hS'
  refine Chk.mk hS ?_
  refine jr ⟨?_⟩
  refine Cl.mono (WriteString_spec hB (hS.part (L := L1)) (by simp; omega)) ?_
  rintro _ w3 ⟨rfl, L2, hB, hS'⟩
  have hS := hS.call (L := L1) hS'
  refine jq ⟨?_⟩
  refine Cl.mono (WriteString_spec hB (hS.part (L := L2)) (by simp; omega)) ?_
  rintro _ w4 ⟨rfl, L3, hB, hS'⟩
  have hS := hS.call (L := L2) hS'
  refine jq ⟨?_⟩
  refine ⟨L3, ?_, hS⟩
  simpa using hB
end Go.Proofs.YtinkmidjbdnibaaGreatDoor
namespace Go.Eng
open Go
theorem Arr.ldn {w0 w : World} {T : List Nat} {H : Heap} (hS : St w0 T H w) {a : Option Addr} {xs : List Value} (ha : Arr w0 T a xs) {b off n : Nat} (hb : a = some ⟨b, off, none⟩) {k : Nat} {l' : List Value} (hl : (xs.drop k).take n = l') (hn : l'.length = n) {K : List Value → Prop} (hk : K l') :
    LdN (fun w' => w = w') n b (off + k) K := by
  subst hl
  refine ⟨⟨_, hn, fun _ e j v hv => ?_, hk⟩⟩
  subst e
  have hv2 : xs[k + j]? = some v := by
    rw [List.getElem?_take] at hv
    split at hv
    · rw [List.getElem?_drop] at hv; exact hv
    · cases hv
  obtain ⟨b', off', h1, h2, h3⟩ := ha (k + j) v hv2
  rw [hb] at h1
  simp only [Option.some.injEq, Addr.mk.injEq, and_true] at h1
  obtain ⟨rfl, rfl⟩ := h1
  have := hS.oldCell (a := ⟨b, off + (k + j), none⟩) h2 h3
  rw [Nat.add_assoc]; exact this
theorem Arr.dropS {w : World} {T : List Nat} {g off cap k sz : Nat} {xs ys : List Value} (h : Arr w T (some ⟨g, off, none⟩) (xs ++ ys)) (hx : xs.length = k * sz) (hc : ys ≠ [] → k < cap) : Arr w T (subA g off k cap sz) ys := by
  unfold subA
  split
  · next hk =>
    have : ys = [] := by
      cases ys with
      | nil => rfl
      | cons y ys => have := hc (by simp); omega
    subst this; exact Arr.nil _ _ _
  · intro j x hj
    obtain ⟨b, o, h1, h2, h3⟩ := h (xs.length + j) x (by rw [List.getElem?_append_right (by omega), show xs.length + j - xs.length = j by omega]; exact hj)
    simp at h1
    obtain ⟨rfl, rfl⟩ := h1
    exact ⟨g, off + k * sz, rfl, h2, by rw [← hx, show off + xs.length + j = off + (xs.length + j) by omega]; exact h3⟩
theorem Arr.ldc {w0 w : World} {T : List Nat} {H : Heap} (hS : St w0 T H w) {g off i j : Nat} {xs : List Value} (ha : Arr w0 T (some ⟨g, off, none⟩) xs) {v : Value} (hx : xs[j]? = some v) (hi : i = off + j) {K : Value → Prop} (hk : K v) : LdC (fun w' => w = w') ⟨g, i, none⟩ K := by
  obtain ⟨b', off', h1, h2, h3⟩ := ha j v hx
  simp only [Option.some.injEq, Addr.mk.injEq, and_true] at h1
  obtain ⟨rfl, rfl⟩ := h1
  rw [hi]
  exact hS.ldOld h2 h3 hk
theorem Arr.ldcC {w0 : World} {T : List Nat} {H : Heap} {g off i j : Nat} {xs : List Value} (ha : Arr w0 T (some ⟨g, off, none⟩) xs) {v : Value} (hx : xs[j]? = some v) (hi : i = off + j) {K : Value → Prop} (hk : K v) : LdC (fun w' => St w0 T H w') ⟨g, i, none⟩ K := by
  obtain ⟨b', off', h1, h2, h3⟩ := ha j v hx
  simp only [Option.some.injEq, Addr.mk.injEq, and_true] at h1
  obtain ⟨rfl, rfl⟩ := h1
  rw [hi]
  exact ⟨⟨v, fun _ h' => h'.oldCell (a := ⟨g, off + j, none⟩) h2 h3, hk⟩⟩
theorem Arr.ldnC {w0 : World} {T : List Nat} {H : Heap} {g off i n k : Nat} {xs l' : List Value} (ha : Arr w0 T (some ⟨g, off, none⟩) xs) (hl : (xs.drop k).take n = l') (hn : l'.length = n) (hi : i = off + k) {K : List Value → Prop} (hk : K l') :
    LdN (fun w' => St w0 T H w') n g i K := by
  subst hl
  refine ⟨⟨_, hn, fun _ h' j v hv => ?_, hk⟩⟩
  have hv2 : xs[k + j]? = some v := by
    rw [List.getElem?_take] at hv
    split at hv
    · rw [List.getElem?_drop] at hv; exact hv
    · cases hv
  obtain ⟨b', off', h1, h2, h3⟩ := ha (k + j) v hv2
  simp only [Option.some.injEq, Addr.mk.injEq, and_true] at h1
  obtain ⟨rfl, rfl⟩ := h1
  have := h'.oldCell (a := ⟨g, off + (k + j), none⟩) h2 h3
  rw [hi, Nat.add_assoc]; exact this
end Go.Eng
namespace Go.Eng
open Go
theorem St.mk0 {P : Program} {T0 : Tbl} (hT : TOk P T0) {t e : TypeId} {sz : Nat} {i ie : TI} (hi : tf T0 t = some i) (hk : i.k = .slice e sz) (hie : tf T0 e = some ie) (_hz : ie.zero.cells.size = sz) {w0 w : World} {T : List Nat} {H : Heap} (hS : St w0 T H w) (n : Nat) (hn : n * sz ≤ 16777216) (hn2 : n * ie.bytes ≤ 281474976710656) (hn3 : n ≤ 1099511627776)
    {K : Value → World → Prop} (h : ∀ a L w', Vec e sz a 0 n [] L → St w0 T (L ++ H) w' → K (.slice a 0 n) w') : RunG P (Instr.makeSlice t (.int .i64 0) (.int .i64 (n : Int))) w K := by
  obtain ⟨inf, hinf, hzz, hs1, hby⟩ := info_of hT hie
  have ht := und_of hT hi; rw [hk] at ht
  have hsz : inf.size = sz := by have := ht.2; rw [hinf] at this; simpa using this
  have hr := run_makeSlice w t e inf ie.zero ht.1 hinf hzz .i64 .i64 0 (n : Int) (by omega) (by omega) (by rw [hsz]; simpa using hn) (by rw [hby]; rw [Nat.mul_comm] at hn2; omega) (by omega)
  rw [hsz] at hr
  have hl : (madeCells ie.zero.cells ((n : Int).toNat * sz)).toList.length = n * sz := by rw [Array.length_toList, size_madeCells]; simp
  have hv := Vec.row (e := e) (sz := sz) w.heap.size 0 n [] (madeCells ie.zero.cells ((n : Int).toNat * sz)).toList (by simp) (by simpa using hl) (Nat.zero_le _)
  exact RunG.of hr (h _ _ _ hv (hS.alloc _))
end Go.Eng
namespace Go.Proofs.YtinkmidjbdnibaaGreatDoor
open Go Go.Eng Go.Proofs
inductive PartM where
  | text (s : Bytes)
  | num (n : Int)
def partC : PartM → List Value
  | .text s => [.int .i64 2, .int .i64 0, Str s]
  | .num n => [.int .i64 1, .int .i64 n, Str []]
def partB : PartM → Bytes
  | .text s => [2] ++ s ++ [0, 0]
  | .num n => [1] ++ be8 (unum n)
def PartM.ok : PartM → Prop
  | .text s => Lib.countByte s 0 = 0 ∧ s.length ≤ 1048576
  | .num n => -9223372036854775808 ≤ n ∧ n ≤ 9223372036854775807
theorem partC_len (p : PartM) : (partC p).length = 3 := by cases p <;> rfl
theorem partsC_len (ps : List PartM) : (ps.flatMap partC).length = 3 * ps.length := by
  induction ps with
  | nil => rfl
  | cons p ps ih => rw [List.flatMap_cons, List.length_append, ih, partC_len, List.length_cons]; omega
theorem partsC_at (ps : List PartM) (k : Nat) (hk : k < ps.length) : ((ps.flatMap partC).drop (k * 3)).take 3 = partC ps[k] := by
  induction ps generalizing k with
  | nil => simp at hk
  | cons p ps ih =>
    cases k with
    | zero => simp only [Nat.zero_mul, List.drop_zero, List.flatMap_cons, List.getElem_cons_zero]; exact List.take_left' (partC_len p)
    | succ k =>
      rw [List.flatMap_cons, show (k + 1) * 3 = (partC p).length + k * 3 by rw [partC_len]; omega, List.drop_length_add_append]
      exact ih k (by simpa using hk)
theorem partB_len (p : PartM) (h : p.ok) : (partB p).length ≤ 1048579 := by
  cases p with
  | text s => have h2 : s.length ≤ 1048576 := h.2; simp [partB]; omega
  | num n => simp [partB, be8]
def partsB (ps : List PartM) : Bytes := (ps.map partB).flatten
theorem partsB_succ (ps : List PartM) (k : Nat) (hk : k < ps.length) : partsB (ps.take (k + 1)) = partsB (ps.take k) ++ partB ps[k] := by
  unfold partsB
  rw [List.take_succ_eq_append_getElem hk, List.map_append, List.flatten_append]; simp
theorem partsB_len (ps : List PartM) (h : ∀ p ∈ ps, p.ok) : (partsB ps).length ≤ 1048579 * ps.length := by
  induction ps with
  | nil => simp [partsB]
  | cons p ps ih =>
    have h1 := ih fun q hq => h q (List.mem_cons_of_mem _ hq)
    have h2 := partB_len p (h p List.mem_cons_self)
    simp only [partsB, List.map_cons, List.flatten_cons, List.length_append, List.length_cons] at h1 ⊢
    omega
set_option maxHeartbeats 4000000 in
theorem Key_spec {w : World} {a : Option Addr} {cap : Nat} {ps : List PartM} (ha : Arr w [] a (ps.flatMap partC)) (hok : ∀ p ∈ ps, p.ok) (hl : ps.length ≤ 1024) :
    Cl Tryz.prog f_order_Key [.slice a ps.length cap] w fun v w' => v = .tuple ⟨[Str (partsB ps), .int .i64 0]⟩ ∧ St w [] [] w' := by
  have hS := St.start w
  refine en_order_Key rfl ?_
  refine jq ⟨?_⟩
  refine hS.al ?_
  intro b w1 _ hS
  have hS : St w [] [(b, .cells ⟨[.pointer none, .slice none 0 0]⟩ T_order_builder (0, 0))] w1 := hS
  refine jq ⟨?_⟩
  refine SemW.loop (fun k : Nat => [(4, ptr b), (9, .slice a ps.length cap), (10, .int .i64 ps.length), (11, .int .i64 k)])
    (fun k w' => k ≤ ps.length ∧ ∃ L, Bld b (partsB (ps.take k)) L ∧ St w [] L w') (fun k => ps.length - k) 0
    ⟨rfl, rfl, rfl, rfl, trivial⟩ ⟨Nat.zero_le _, _, Bld.new b, hS⟩ ?_
  rintro k w2 ⟨hk, L1, hB, hS⟩
  have hpl := partsB_len (ps.take k) (fun p hp => hok p (List.mem_of_mem_take hp))
  rw [List.length_take] at hpl
  have hpl : (partsB (ps.take k)).length ≤ 1048579 * ps.length := Nat.le_trans hpl (Nat.mul_le_mul_left _ (Nat.min_le_right _ _))
  by_cases hkl : k < ps.length
  · have hcl := partsC_len ps
    obtain ⟨g, off, rfl, -, -⟩ := ha.get (j := k * 3) (by omega)
    have hat := partsC_at ps k hkl
    have hpok := hok ps[k] (List.getElem_mem hkl)
    have hsucc := partsB_succ ps k hkl
    refine jq ⟨?_⟩
    refine Arr.ldn hS ha rfl (k := k * 3) hat (partC_len _) ?_
    generalize ps[k] = p at hat hpok hsucc ⊢
    cases p with
    | text s =>
      obtain ⟨hp0, hp1⟩ := hpok
      unfold partC
      refine jq ⟨?_⟩
      refine hS.al ?_
      intro pb w3 _ hS
      (repeat (refine jt ⟨?_⟩; refine hS.st rfl rfl ?_; intro _ hS)); refine jt ⟨?_⟩
      refine Cl.mono (text_spec hB (hS.part (L := L1)) hp0 (by omega)) ?_
      rintro _ w4 ⟨L4, hB4, hS'⟩
      have hS := hS.call (L := L1) hS'
      have hB4 : Bld b (partsB (ps.take (k + 1))) L4 := by rw [hsucc]; exact hB4
      (repeat (refine jt ⟨?_⟩; refine hS.st rfl rfl ?_; intro _ hS)); refine jt ⟨?_⟩
      exact ⟨k + 1, ⟨rfl, rfl, rfl, rfl, trivial⟩, ⟨by omega, L4, hB4, hS.sub (List.sublist_cons_self _ _)⟩, by omega⟩
    | num n =>
      unfold partC
      refine jq ⟨?_⟩
      refine hS.al ?_
      intro pb w3 _ hS
      (repeat (refine jt ⟨?_⟩; refine hS.st rfl rfl ?_; intro _ hS)); refine jt ⟨?_⟩
      refine Cl.mono (number_spec hB (hS.part (L := L1)) n hpok (by omega)) ?_
      rintro _ w4 ⟨L4, hB4, hS'⟩
      have hS := hS.call (L := L1) hS'
      have hB4 : Bld b (partsB (ps.take (k + 1))) L4 := by rw [hsucc]; exact hB4
      (repeat (refine jt ⟨?_⟩; refine hS.st rfl rfl ?_; intro _ hS)); refine jt ⟨?_⟩
      exact ⟨k + 1, ⟨rfl, rfl, rfl, rfl, trivial⟩, ⟨by omega, L4, hB4, hS.sub (List.sublist_cons_self _ _)⟩, by omega⟩
  · have hke : k = ps.length := by omega
    subst hke
    rw [List.take_length] at hB hpl
    refine jq ⟨?_⟩
    refine Cl.mono (String_spec hB (hS.part (L := L1)) (by omega)) ?_
    rintro _ w3 ⟨rfl, hS'⟩
    have hS := hS.call (L := L1) hS'
    refine jq ⟨?_⟩
    exact ⟨rfl, hS.nil⟩
set_option maxHeartbeats 1000000 in
theorem OText_spec {w : World} {a : Option Addr} {cap : Nat} {ss : List Bytes} (ha : Arr w [] a (ss.map Str)) (hl : ss.length ≤ 1024) :
    Cl Tryz.prog f_order_Text [.slice a ss.length cap] w fun v w' => ∃ a' c' L, v = .slice a' ss.length c' ∧ Vec T_api_Part 3 a' ss.length c' ((ss.map PartM.text).flatMap partC) L ∧ St w [] L w' := by
  have hS := St.start w
  refine en_order_Text rfl ?_
  refine jq ⟨?_⟩
  refine St.mk0 (sz := 3) tblOk rfl rfl rfl rfl hS ss.length (by omega) (by show _ * 32 ≤ _; omega) (by omega) ?_
  intro a0 L0 w1 hv hS
  rw [List.append_nil] at hS
  refine jq ⟨?_⟩
  refine SemW.loop (fun x : Nat × Option Addr × Nat => [(3, .slice x.2.1 x.1 x.2.2), (9, .slice a ss.length cap), (10, .int .i64 ss.length), (11, .int .i64 x.1)])
    (fun x w' => x.1 ≤ ss.length ∧ ∃ L, Vec T_api_Part 3 x.2.1 x.1 x.2.2 (((ss.take x.1).map PartM.text).flatMap partC) L ∧ St w [] L w') (fun x => ss.length - x.1) (0, a0, ss.length)
    ⟨rfl, rfl, rfl, rfl, trivial⟩ ⟨Nat.zero_le _, L0, hv, hS⟩ ?_
  rintro ⟨k, a2, c2⟩ w2 ⟨hk, L2, hv, hS⟩
  simp only at hk hv hS ⊢
  by_cases hkl : k < ss.length
  · obtain ⟨b', off', rfl, -, hck⟩ := ha.get (j := k) (by simp; omega)
    simp only [List.getElem_map] at hck
    have hsucc : ((ss.take (k + 1)).map PartM.text).flatMap partC = ((ss.take k).map PartM.text).flatMap partC ++ partC (.text ss[k]) := by
      rw [List.take_succ_eq_append_getElem hkl, List.map_append, List.flatMap_append]; simp
    refine jq ⟨?_⟩
    refine hS.ldOld (by simp) (by simpa using hck) ?_
    refine jq ⟨?_⟩
    refine hS.al ?_
    intro r w3 _ hS
    refine jq ⟨?_⟩
    refine St.app (sz := 3) (m := 1) tblOk rfl rfl rfl rfl hS hv (news := partC (.text ss[k])) rfl (by have := hS.arr (b := r) (T' := []) (by simp); exact this) rfl (by show (_ + _) * 32 ≤ _; omega) (by omega) ?_
    intro a' c' L' w4 hv' hS
    rw [← hsucc] at hv'
    have hS := hS.sub (H' := L') (List.sublist_cons_self _ _)
    refine jq ⟨?_⟩
    exact ⟨(k + 1, a', c'), ⟨rfl, rfl, rfl, rfl, trivial⟩, ⟨by simp only; omega, L', hv', hS⟩, by simp only; omega⟩
  · have hke : k = ss.length := by omega
    subst hke
    rw [List.take_length] at hv
    refine jq ⟨?_⟩
    exact ⟨a2, c2, L2, rfl, hv, hS⟩
set_option maxHeartbeats 1000000 in
theorem OInt_spec {w : World} {a : Option Addr} {cap : Nat} {ss : List Int} (ha : Arr w [] a (ss.map intV)) (hl : ss.length ≤ 1024) :
    Cl Tryz.prog f_order_Int [.slice a ss.length cap] w fun v w' => ∃ a' c' L, v = .slice a' ss.length c' ∧ Vec T_api_Part 3 a' ss.length c' ((ss.map PartM.num).flatMap partC) L ∧ St w [] L w' := by
  have hS := St.start w
  refine en_order_Int rfl ?_
  refine jq ⟨?_⟩
  refine St.mk0 (sz := 3) tblOk rfl rfl rfl rfl hS ss.length (by omega) (by show _ * 32 ≤ _; omega) (by omega) ?_
  intro a0 L0 w1 hv hS
  rw [List.append_nil] at hS
  refine jq ⟨?_⟩
  refine SemW.loop (fun x : Nat × Option Addr × Nat => [(3, .slice x.2.1 x.1 x.2.2), (9, .slice a ss.length cap), (10, .int .i64 ss.length), (11, .int .i64 x.1)])
    (fun x w' => x.1 ≤ ss.length ∧ ∃ L, Vec T_api_Part 3 x.2.1 x.1 x.2.2 (((ss.take x.1).map PartM.num).flatMap partC) L ∧ St w [] L w') (fun x => ss.length - x.1) (0, a0, ss.length)
    ⟨rfl, rfl, rfl, rfl, trivial⟩ ⟨Nat.zero_le _, L0, hv, hS⟩ ?_
  rintro ⟨k, a2, c2⟩ w2 ⟨hk, L2, hv, hS⟩
  simp only at hk hv hS ⊢
  by_cases hkl : k < ss.length
  · obtain ⟨b', off', rfl, -, hck⟩ := ha.get (j := k) (by simp; omega)
    simp only [List.getElem_map] at hck
    unfold intV at hck
    have hsucc : ((ss.take (k + 1)).map PartM.num).flatMap partC = ((ss.take k).map PartM.num).flatMap partC ++ partC (.num ss[k]) := by
      rw [List.take_succ_eq_append_getElem hkl, List.map_append, List.flatMap_append]; simp
    refine jq ⟨?_⟩
    refine hS.ldOld (by simp) (by simpa using hck) ?_
    refine jq ⟨?_⟩
    refine hS.al ?_
    intro r w3 _ hS
    refine jq ⟨?_⟩
    refine St.app (sz := 3) (m := 1) tblOk rfl rfl rfl rfl hS hv (news := partC (.num ss[k])) rfl (by have := hS.arr (b := r) (T' := []) (by simp); exact this) rfl (by show (_ + _) * 32 ≤ _; omega) (by omega) ?_
    intro a' c' L' w4 hv' hS
    rw [← hsucc] at hv'
    have hS := hS.sub (H' := L') (List.sublist_cons_self _ _)
    refine jq ⟨?_⟩
    exact ⟨(k + 1, a', c'), ⟨rfl, rfl, rfl, rfl, trivial⟩, ⟨by simp only; omega, L', hv', hS⟩, by simp only; omega⟩
  · have hke : k = ss.length := by omega
    subst hke
    rw [List.take_length] at hv
    refine jq ⟨?_⟩
    exact ⟨a2, c2, L2, rfl, hv, hS⟩
theorem key_eq (c : UInt8) (n : Int) : partsB [.text [c], .num n] = keyB c n := by simp [partsB, partB, keyB]
set_option maxHeartbeats 1000000 in
theorem rkey_spec {w : World} (c : UInt8) (hc : Lib.countByte [c] 0 = 0) (n : Int) (hn : -9223372036854775808 ≤ n ∧ n ≤ 9223372036854775807) : Cl Tryz.prog f_rows_key [Str [c], .int .i64 n] w fun v w' => v = Str (keyB c n) ∧ St w [] [] w' := by
  have hS := St.start w
  refine en_rows_key rfl ?_
  refine jq ⟨?_⟩
  refine hS.al ?_
  intro r w1 _ hS
  refine jq ⟨?_⟩
  refine Cl.mono (OText_spec (ss := [[c]]) (hS.arr (b := r) (by simp)) (by simp)) ?_
  rintro _ w2 ⟨a1, c1, L1, rfl, hv1, hS'⟩
  have hS := (hS.callNew hS').sub (H' := L1) (List.sublist_append_left _ _)
  refine jq ⟨?_⟩
  refine hS.al ?_
  intro r2 w3 _ hS
  refine jq ⟨?_⟩
  refine Cl.mono (OInt_spec (ss := [n]) (hS.arr (b := r2) (by simp)) (by simp)) ?_
  rintro _ w4 ⟨a2, c2, L2, rfl, hv2, hS'⟩
  have hS := (hS.callNew hS').sub (H' := L2 ++ L1) (List.Sublist.append (List.Sublist.refl _) (List.sublist_cons_self _ _))
  refine jq ⟨?_⟩
  refine St.app (sz := 3) (m := 1) tblOk rfl rfl rfl rfl hS hv1 (news := partC (.num n)) rfl (hv2.arr hS (by simp)) rfl (by show (_ + _) * 32 ≤ _; simp) (by simp) ?_
  intro a3 c3 L3 w5 hv3 hS
  refine jq ⟨?_⟩
  refine Cl.mono (Key_spec (ps := [.text [c], .num n]) (hv3.arr hS (by simp)) (by
    intro p hp
    simp only [List.mem_cons, List.mem_nil_iff, or_false] at hp
    rcases hp with rfl | rfl
    · exact ⟨hc, by simp⟩
    · exact hn) (by simp)) ?_
  rintro _ w6 ⟨rfl, hS'⟩
  have hS := hS.call0 hS'
  rw [key_eq]
  refine jq ⟨?_⟩
  exact ⟨rfl, hS.nil⟩
end Go.Proofs.YtinkmidjbdnibaaGreatDoor
namespace Go.Proofs.YtinkmidjbdnibaaGreatDoor
open Go Go.Eng Go.Proofs
def escB : Bytes → Bytes
  | [] => []
  | c :: r => if c = 0 then 0 :: 255 :: escB r else c :: escB r
def partG : PartM → Bytes
  | .num n => 1 :: be8 (unum n)
  | .text s => 2 :: (escB s ++ [0, 0])
def partsG (ps : List PartM) : Bytes := (ps.map partG).flatten
def PartM.okN : PartM → Prop
  | .num n => -9223372036854775808 ≤ n ∧ n ≤ 9223372036854775807
  | .text _ => True
def txtM : Bytes → Option (Bytes × Bytes)
  | [] => none
  | [_] => none
  | c :: d :: r => if c ≠ 0 then (txtM (d :: r)).map fun z => (c :: z.1, z.2) else if d = 255 then (txtM r).map fun z => (0 :: z.1, z.2) else if d = 0 then some ([], r) else none
theorem txtM_esc : ∀ (s r : Bytes), txtM (escB s ++ 0 :: 0 :: r) = some (s, r)
  | [], r => rfl
  | c :: s, r => by
    have ih := txtM_esc s r
    unfold escB
    by_cases hc : c = 0
    · subst hc
      rw [if_pos rfl]
      show txtM (0 :: 255 :: (escB s ++ 0 :: 0 :: r)) = _
      unfold txtM
      rw [if_neg (by simp), if_pos rfl, ih]; rfl
    · rw [if_neg hc, List.cons_append]
      obtain ⟨d, r', he⟩ : ∃ d r', escB s ++ 0 :: 0 :: r = d :: r' := by
        cases h : escB s ++ 0 :: 0 :: r with
        | nil => simp at h
        | cons d r' => exact ⟨d, r', rfl⟩
      rw [he] at ih ⊢
      unfold txtM
      rw [if_pos hc, ih]; rfl
theorem txtM_some : ∀ (n : Nat) (t : Bytes), t.length ≤ n → ∀ s r, txtM t = some (s, r) → t = escB s ++ 0 :: 0 :: r
  | n, [], _, s, r, h => by cases h
  | n, [x], _, s, r, h => by cases h
  | 0, c :: d :: t, hn, s, r, h => by simp at hn
  | n + 1, c :: d :: t, hn, s, r, h => by
    unfold txtM at h
    by_cases hc : c = 0
    · rw [if_neg (by simpa using hc)] at h
      by_cases hd : d = 255
      · rw [if_pos hd] at h
        cases h2 : txtM t with
        | none => rw [h2] at h; cases h
        | some z =>
          rw [h2] at h
          simp only [Option.map_some, Option.some.injEq, Prod.mk.injEq] at h
          obtain ⟨rfl, rfl⟩ := h
          have := txtM_some n t (by simp only [List.length_cons] at hn; omega) z.1 z.2 h2
          rw [hc, hd, this]
          rfl
      · rw [if_neg hd] at h
        by_cases hd0 : d = 0
        · rw [if_pos hd0] at h
          simp only [Option.some.injEq, Prod.mk.injEq] at h
          obtain ⟨rfl, rfl⟩ := h
          rw [hc, hd0]; rfl
        · rw [if_neg hd0] at h; cases h
    · rw [if_pos hc] at h
      cases h2 : txtM (d :: t) with
      | none => rw [h2] at h; cases h
      | some z =>
        rw [h2] at h
        simp only [Option.map_some, Option.some.injEq, Prod.mk.injEq] at h
        obtain ⟨rfl, rfl⟩ := h
        have := txtM_some n (d :: t) (by simp only [List.length_cons] at hn ⊢; omega) z.1 z.2 h2
        rw [this]
        have e : escB (c :: z.1) = c :: escB z.1 := by rw [escB, if_neg hc]
        rw [e]; rfl
theorem txtM_iff {t s r : Bytes} : txtM t = some (s, r) ↔ t = escB s ++ 0 :: 0 :: r :=
  ⟨txtM_some t.length t (Nat.le_refl _) s r, fun h => by rw [h]; exact txtM_esc s r⟩
def beV (l : Bytes) : Nat := l.foldl (fun u x => 256 * u + x.toNat) 0
theorem beV_snoc (l : Bytes) (x : UInt8) : beV (l ++ [x]) = 256 * beV l + x.toNat := by unfold beV; rw [List.foldl_append]; rfl
theorem list8 {l : Bytes} (h : l.length = 8) : ∃ a b c d e f g i, l = [a, b, c, d, e, f, g, i] := by
  match l, h with
  | [a, b, c, d, e, f, g, i], _ => exact ⟨a, b, c, d, e, f, g, i, rfl⟩
theorem beV8 (a b c d e f g i : UInt8) : beV [a, b, c, d, e, f, g, i] = a.toNat * 72057594037927936 + b.toNat * 281474976710656 + c.toNat * 1099511627776 + d.toNat * 4294967296 + e.toNat * 16777216 + f.toNat * 65536 + g.toNat * 256 + i.toNat := by
  unfold beV
  simp only [List.foldl]
  omega
theorem u8of {n : Nat} {x : UInt8} (h : n % 256 = x.toNat) : UInt8.ofNat n = x := by
  apply UInt8.toNat_inj.1
  simp [h]
theorem be8_beV {l : Bytes} (h : l.length = 8) : be8 (beV l) = l ∧ beV l < 18446744073709551616 := by
  obtain ⟨a, b, c, d, e, f, g, i, rfl⟩ := list8 h
  have ha := a.toNat_lt
  have hb := b.toNat_lt
  have hc := c.toNat_lt
  have hd := d.toNat_lt
  have he := e.toNat_lt
  have hf := f.toNat_lt
  have hg := g.toNat_lt
  have hi := i.toNat_lt
  rw [beV8]
  refine ⟨?_, by omega⟩
  unfold be8
  simp only [List.cons.injEq, and_true]
  refine ⟨u8of ?_, u8of ?_, u8of ?_, u8of ?_, u8of ?_, u8of ?_, u8of ?_, u8of ?_⟩ <;> omega
theorem be8_len (n : Nat) : (be8 n).length = 8 := rfl
theorem beV_be8 {n : Nat} (h : n < 18446744073709551616) : beV (be8 n) = n := by
  obtain ⟨h1, h2⟩ := be8_beV (l := be8 n) rfl
  generalize beV (be8 n) = m at h1 h2 ⊢
  rw [be8_eq, be8_eq] at h1
  exact beN_inj 8 _ _ h2 h h1
def Spl (k : Bytes) (ps : List PartM) : Prop := partsG ps = k ∧ ∀ p ∈ ps, p.okN
theorem partG_pos (p : PartM) : ∃ c r, partG p = c :: r := by
  cases p with
  | num n => exact ⟨_, _, rfl⟩
  | text s => exact ⟨_, _, rfl⟩
theorem spl_nil {ps : List PartM} : Spl [] ps ↔ ps = [] := by
  constructor
  · rintro ⟨h, -⟩
    cases ps with
    | nil => rfl
    | cons p ps =>
      obtain ⟨c, r, e⟩ := partG_pos p
      unfold partsG at h
      rw [List.map_cons, List.flatten_cons, e] at h
      cases h
  · rintro rfl; exact ⟨rfl, by nofun⟩
theorem spl_cons {k : Bytes} {p : PartM} {ps : List PartM} : Spl k (p :: ps) ↔ ∃ r, k = partG p ++ r ∧ p.okN ∧ Spl r ps := by
  constructor
  · rintro ⟨h, h2⟩
    exact ⟨partsG ps, by rw [← h]; rfl, h2 p List.mem_cons_self, rfl, fun q hq => h2 q (List.mem_cons_of_mem _ hq)⟩
  · rintro ⟨r, rfl, h1, h2, h3⟩
    refine ⟨by rw [← h2]; rfl, fun q hq => ?_⟩
    rcases List.mem_cons.1 hq with rfl | hq
    · exact h1
    · exact h3 q hq
theorem spl_ne {c : UInt8} {r : Bytes} {ps : List PartM} (h : Spl (c :: r) ps) : ∃ p qs z, ps = p :: qs ∧ c :: r = partG p ++ z ∧ p.okN ∧ Spl z qs := by
  cases ps with
  | nil => obtain ⟨h, -⟩ := h; cases h
  | cons p qs => obtain ⟨z, h1, h2, h3⟩ := spl_cons.1 h; exact ⟨p, qs, z, rfl, h1, h2, h3⟩
def unb (l : Bytes) : Int := (beV l : Int) - 9223372036854775808
theorem unum_unb {l : Bytes} (h : l.length = 8) : unum (unb l) = beV l ∧ (-9223372036854775808 ≤ unb l ∧ unb l ≤ 9223372036854775807) := by
  obtain ⟨-, h2⟩ := be8_beV h
  unfold unum unb
  omega
theorem spl_num {r : Bytes} (hr : 8 ≤ r.length) {ps : List PartM} : Spl (1 :: r) ps ↔ ∃ qs, ps = .num (unb (r.take 8)) :: qs ∧ Spl (r.drop 8) qs := by
  have hl : (r.take 8).length = 8 := by rw [List.length_take]; omega
  constructor
  · intro h
    obtain ⟨p, qs, z, rfl, h1, h2, h3⟩ := spl_ne h
    cases p with
    | text s => simp [partG] at h1
    | num n =>
      simp only [partG, List.cons_append, List.cons.injEq, true_and] at h1
      have e1 : r.take 8 = be8 (unum n) := by rw [h1]; exact List.take_left' (be8_len _)
      have e2 : r.drop 8 = z := by rw [h1]; exact List.drop_left' (be8_len _)
      have hn : -9223372036854775808 ≤ n ∧ n ≤ 9223372036854775807 := h2
      refine ⟨qs, ?_, by rw [e2]; exact h3⟩
      have e3 : beV (r.take 8) = unum n := by rw [e1]; exact beV_be8 (by unfold unum; omega)
      congr 2
      unfold unb
      rw [e3]
      unfold unum; omega
  · rintro ⟨qs, rfl, h⟩
    obtain ⟨h1, h2⟩ := unum_unb hl
    refine spl_cons.2 ⟨r.drop 8, ?_, h2, h⟩
    simp only [partG, List.cons_append]
    rw [h1, (be8_beV hl).1, List.take_append_drop]
theorem spl_num_no {r : Bytes} (hr : r.length < 8) (ps : List PartM) : ¬ Spl (1 :: r) ps := by
  intro h
  obtain ⟨p, qs, z, rfl, h1, h2, h3⟩ := spl_ne h
  cases p with
  | text s => simp [partG] at h1
  | num n =>
    simp only [partG, List.cons_append, List.cons.injEq, true_and] at h1
    have := congrArg List.length h1
    rw [List.length_append, be8_len] at this
    omega
theorem spl_text {r s z : Bytes} (hr : txtM r = some (s, z)) {ps : List PartM} : Spl (2 :: r) ps ↔ ∃ qs, ps = .text s :: qs ∧ Spl z qs := by
  constructor
  · intro h
    obtain ⟨p, qs, z', rfl, h1, h2, h3⟩ := spl_ne h
    cases p with
    | num n => simp [partG] at h1
    | text s' =>
      simp only [partG, List.cons_append, List.append_assoc, List.cons.injEq, true_and] at h1
      have := txtM_iff.2 (show r = escB s' ++ 0 :: 0 :: z' from h1)
      rw [hr] at this
      simp only [Option.some.injEq, Prod.mk.injEq] at this
      obtain ⟨rfl, rfl⟩ := this
      exact ⟨qs, rfl, h3⟩
  · rintro ⟨qs, rfl, h⟩
    refine spl_cons.2 ⟨z, ?_, trivial, h⟩
    rw [txtM_iff.1 hr]
    simp [partG]
theorem spl_text_no {r : Bytes} (hr : txtM r = none) (ps : List PartM) : ¬ Spl (2 :: r) ps := by
  intro h
  obtain ⟨p, qs, z', rfl, h1, h2, h3⟩ := spl_ne h
  cases p with
  | num n => simp [partG] at h1
  | text s' =>
    simp only [partG, List.cons_append, List.append_assoc, List.cons.injEq, true_and] at h1
    have := txtM_iff.2 (show r = escB s' ++ 0 :: 0 :: z' from h1)
    rw [hr] at this; cases this
theorem spl_other {c : UInt8} {r : Bytes} (h1 : ¬ c = 1) (h2 : ¬ c = 2) (ps : List PartM) : ¬ Spl (c :: r) ps := by
  intro h
  obtain ⟨p, qs, z', rfl, h3, -, -⟩ := spl_ne h
  cases p with
  | num n => simp only [partG, List.cons_append, List.cons.injEq] at h3; exact h1 h3.1
  | text s' => simp only [partG, List.cons_append, List.cons.injEq] at h3; exact h2 h3.1
theorem spl_inj : ∀ {ps qs : List PartM} {k : Bytes}, Spl k ps → Spl k qs → ps = qs
  | [], qs, k, h1, h2 => by
    obtain ⟨rfl, -⟩ := h1
    exact (spl_nil.1 h2).symm
  | .num n :: ps, qs, k, h1, h2 => by
    obtain ⟨r, rfl, h3, h4⟩ := spl_cons.1 h1
    have e : partG (.num n) ++ r = 1 :: (be8 (unum n) ++ r) := rfl
    have hl : 8 ≤ (be8 (unum n) ++ r).length := by rw [List.length_append, be8_len]; omega
    rw [e] at h1 h2
    obtain ⟨a, e1, h5⟩ := (spl_num hl).1 h1
    obtain ⟨b, e2, h6⟩ := (spl_num hl).1 h2
    rw [e1, e2]
    simp only [List.cons.injEq] at e1
    obtain ⟨-, rfl⟩ := e1
    rw [spl_inj h5 h6]
  | .text s :: ps, qs, k, h1, h2 => by
    obtain ⟨r, rfl, h3, h4⟩ := spl_cons.1 h1
    have e : partG (.text s) ++ r = 2 :: (escB s ++ 0 :: 0 :: r) := by simp [partG]
    rw [e] at h1 h2
    obtain ⟨a, e1, h5⟩ := (spl_text (txtM_esc s r)).1 h1
    obtain ⟨b, e2, h6⟩ := (spl_text (txtM_esc s r)).1 h2
    rw [e1, e2]
    simp only [List.cons.injEq] at e1
    obtain ⟨-, rfl⟩ := e1
    rw [spl_inj h5 h6]
theorem spl_keyB {c : UInt8} (hc : ¬ c = 0) {n : Int} (hn : -9223372036854775808 ≤ n ∧ n ≤ 9223372036854775807) : Spl (keyB c n) [.text [c], .num n] := by
  refine ⟨?_, ?_⟩
  · unfold keyB
    simp [partsG, partG, escB, hc]
  · intro p hp
    simp only [List.mem_cons, List.mem_nil_iff, or_false] at hp
    rcases hp with rfl | rfl
    · trivial
    · exact hn
theorem keyB_spl {c : UInt8} (hc : ¬ c = 0) {n : Int} {k : Bytes} (h : Spl k [.text [c], .num n]) : k = keyB c n ∧ (-9223372036854775808 ≤ n ∧ n ≤ 9223372036854775807) := by
  have hn : -9223372036854775808 ≤ n ∧ n ≤ 9223372036854775807 := h.2 (.num n) (by simp)
  exact ⟨by rw [← h.1, ← (spl_keyB hc hn).1], hn⟩
end Go.Proofs.YtinkmidjbdnibaaGreatDoor
namespace Go.Proofs.YtinkmidjbdnibaaGreatDoor
open Go Go.Eng Go.Proofs
open Go.ChangeShapes Go.WideShapes Go.ChangeAt Go.RowKit
end Go.Proofs.YtinkmidjbdnibaaGreatDoor
namespace Go.Eng
open Go
section
variable {P : Program} {T0 : Tbl}
theorem indexArr (hT : TOk P T0) {t e : TypeId} {i ie : TI} {n : Nat} (hi : tf T0 t = some i) (hk : i.k = .arr n e 1) (hie : tf T0 e = some ie) (hagg : ie.agg = false) {cs : List Value} {j : Nat} (hj : j < n) {v : Value} (hv : cs[j]? = some v) {k : IntKind} {K : Value → Prop} (hK : K v) :
    PureRun P (Instr.index t (.agg ⟨cs⟩) (.int k (j : Int))) K := by
  refine ⟨v, fun w => ?_, hK⟩
  have ht := und_of hT hi; rw [hk] at ht
  obtain ⟨hu, hs⟩ := ht
  cases hinf : P.info? e with
  | none => rw [hinf] at hs; simp at hs
  | some inf =>
    rw [hinf] at hs
    have hs1 : inf.size = 1 := by simpa using hs
    have ha : (isAgg e).run P w = .ok false w := load_one hT hie hagg w
    simp [Instr.index, run_underlying hu, asIntOf, hj, part, ha, sizeOf, typeInfo, hinf, hs1]
    rw [hv]; rfl
theorem sliceArrA (hT : TOk P T0) {t e : TypeId} {i : TI} {n sz : Nat} (hi : tf T0 t = some i) (hk : i.k = .arr n e sz) {b off : Nat} {C : World → Prop} {K : Value → Prop} (hK : K (.slice (some ⟨b, off, none⟩) n n)) :
    RdG P (Instr.sliceAt t (.pointer (some ⟨b, off, none⟩)) none none none) C K := by
  refine ⟨_, fun w _ => ?_, hK⟩
  have ht := und_of hT hi; rw [hk] at ht
  obtain ⟨hu, hs⟩ := ht
  cases hinf : P.info? e with
  | none => rw [hinf] at hs; simp at hs
  | some inf =>
    rw [hinf] at hs
    have hs1 : inf.size = sz := by simpa using hs
    have e1 : P.elem t = e := by simp [Program.elem, hu]
    have e2 : P.arrayLen t = n := by simp [Program.arrayLen, hu]
    rw [run_sliceAt_array_all w t ⟨b, off, none⟩ (by rw [e1, e2]; exact hu)]
    rw [e1, e2]
    simp [sizeOf, typeInfo, hinf, slicedAt, Addr.add_eq]
theorem St.copy (hT : TOk P T0) {t u e ty : TypeId} {i : TI} (hi : tf T0 t = some i) (hk : i.k = .slice e 1) {w0 w : World} {T : List Nat} {H : Heap} {g off n cap : Nat} {l : List Value} {et : TypeId} {F : Obj → Heap} (hS : St w0 T H w) [hs : Slot H g (.cells ⟨l⟩ et (0, 0)) F]
    {a : Addr} {m c : Nat} {cs : List Value} (hn : cs.length = min m n) (ha : Arr w [] (some a) cs) (h1 : cs.all Value.oneCell' = true) (hfit : off + cs.length ≤ l.length) {K : Value → World → Prop}
    (h : ∀ w', St w0 T (F (.cells ⟨splice l off cs⟩ et (0, 0))) w' → K (.int .i64 cs.length) w') :
    RunG P (Builtin.copy_ ⟨[t, u]⟩ ty ⟨[.slice (some ⟨g, off, none⟩) n cap, .slice (some a) m c]⟩) w K := by
  have ht := und_of hT hi; rw [hk] at ht
  have hmem := hS.mem (b := g)
  refine RunG.of (run_copy_row P w t u ty e g off n cap a m c ⟨l⟩ et cs ht.1 ht.2 hmem hn (fun j v hj => ?_) (by simpa using hfit) (fun v hv => List.all_eq_true.1 h1 v hv)) ?_
  · obtain ⟨b', o', h2, -, h3⟩ := ha j v hj
    cases h2
    rw [Addr.add_eq]; exact h3
  · exact h _ (hS.setRow (l := l))
end
end Go.Eng
namespace Go.Eng
open Go
section
variable {P : Program} {T0 : Tbl}
def PartIs (P : Program) (t : TypeId) (xs : List Value) (off : Nat) (v : Value) : Prop := ∀ w, (part t ⟨xs⟩ off).run P w = .ok v w
theorem PartIs.one (hT : TOk P T0) {t : TypeId} {i : TI} (hi : tf T0 t = some i) (ha : i.agg = false) {xs : List Value} {off : Nat} {v : Value} (hx : xs[off]? = some v) : PartIs P t xs off v := by
  intro w
  have h1 := load_one hT hi ha w
  simp [part, h1]
  rw [hx]; rfl
theorem PartIs.agg (hT : TOk P T0) {t : TypeId} {i : TI} (hi : tf T0 t = some i) (ha : i.agg = true) {xs vs : List Value} {off : Nat} (hx : (xs.drop off).take i.size = vs) : PartIs P t xs off (.agg ⟨vs⟩) := by
  intro w
  have h1 := load_agg hT hi ha w
  have h2 := size_of hT hi w
  simp [part, h1, h2]
  exact hx
def EqV (n : Nat) (P : Program) (t : TypeId) (a b : Value) (r : Bool) : Prop := ∀ k w, (Op.equalIn (k + n) t a b).run P w = .ok r w
def fieldRows (fs : List Field) : List (Bool × TypeId × Nat) := fs.map fun f => (decide (f.name ≠ "_"), f.type, f.offset)
def EqFs (n : Nat) (P : Program) (xs ys : List Value) (d : List (TypeId × Nat)) (r : Bool) : Prop :=
  ∀ (fs : List Field), fieldRows fs = d.map (fun x => (true, x.1, x.2)) → ∀ k w, (Op.eqFields (k + n) ⟨xs⟩ ⟨ys⟩ fs).run P w = .ok r w
theorem EqV.int {n : Nat} (hT : TOk P T0) {t : TypeId} {i : TI} (hi : tf T0 t = some i) {kk k : IntKind} (hk : i.k = .int kk) (a b : Int) : EqV (n + 1) P t (.int k a) (.int k b) (decide (a = b)) := by
  intro d w
  have h := und_of hT hi; rw [hk] at h
  rw [show decide (a = b) = (a == b) by rw [Bool.eq_iff_iff]; simp]
  exact run_equalIn_int w (d + n) t k kk a b h
theorem EqV.bool {n : Nat} (hT : TOk P T0) {t : TypeId} {i : TI} (hi : tf T0 t = some i) (hk : i.k = .bool) (a b : Bool) : EqV (n + 1) P t (.bool a) (.bool b) (decide (a = b)) := by
  intro d w
  have h := und_of hT hi; rw [hk] at h
  rw [show decide (a = b) = (a == b) by rw [Bool.eq_iff_iff]; simp]
  exact run_equalIn_bool' w (d + n) t a b h
theorem EqV.str {n : Nat} (hT : TOk P T0) {t : TypeId} {i : TI} (hi : tf T0 t = some i) (hk : i.k = .str) (a b : List UInt8) : EqV (n + 1) P t (Str a) (Str b) (decide (a = b)) := by
  intro d w
  have h := und_of hT hi; rw [hk] at h
  rw [show decide (a = b) = ((⟨⟨a⟩⟩ : ByteArray).toList == (⟨⟨b⟩⟩ : ByteArray).toList) by rw [bytes_toList, bytes_toList, Bool.eq_iff_iff]; simp]
  exact run_equalIn_string w (d + n) t _ _ h
theorem EqFs.nil {n : Nat} {xs ys : List Value} : EqFs n P xs ys [] true := by
  intro fs h k w
  cases fs with
  | nil => simp [Op.eqFields]
  | cons f fs => simp [fieldRows] at h
theorem EqFs.cons {n : Nat} {xs ys : List Value} {t : TypeId} {off : Nat} {d : List (TypeId × Nat)} {a b : Value} {r1 r2 : Bool} (h1 : PartIs P t xs off a) (h2 : PartIs P t ys off b) (h3 : EqV n P t a b r1) (h4 : EqFs n P xs ys d r2) :
    EqFs n P xs ys ((t, off) :: d) (r1 && r2) := by
  intro fs h k w
  cases fs with
  | nil => simp [fieldRows] at h
  | cons f fs =>
    simp only [fieldRows, List.map_cons, List.cons.injEq, Prod.mk.injEq, decide_eq_true_eq] at h
    obtain ⟨⟨hn, rfl, rfl⟩, h⟩ := h
    have e := h4 fs h k w
    simp only [Op.eqFields, if_pos hn, Sem.run_bind, h1 w, h2 w, h3 k w, Result.andThen_ok, Sem.run_ite]
    cases r1 with
    | false => simp
    | true => simp [e]
theorem EqV.struct {n : Nat} {t : TypeId} {d : List (TypeId × Nat)} (ht : P.underlying t = some (.struct (P.fieldsOf t))) (hp : P.stoodInHeld t = false) (hd : fieldRows (P.fieldsOf t).toList = d.map (fun x => (true, x.1, x.2))) {xs ys : List Value} {r : Bool} (h : EqFs n P xs ys d r) :
    EqV (n + 1) P t (.agg ⟨xs⟩) (.agg ⟨ys⟩) r := by
  intro k w
  rw [show k + (n + 1) = (k + n) + 1 by omega, run_equalIn_struct w (k + n) t _ _ ht hp]
  exact h _ hd k w
theorem eqlAgg {n : Nat} {t : TypeId} {x y : Operand} {xs ys : List Value} {r : Bool} (hn : n ≤ 10000) (hm : P.eqGuardType P.depth t = false) (h : EqV n P t (.agg ⟨xs⟩) (.agg ⟨ys⟩) r) {K : Value → Prop} (hK : K (.bool r)) :
    PureRun P (do eqGuard .eql t x y (.agg ⟨xs⟩) (.agg ⟨ys⟩); binOp .eql t (.agg ⟨xs⟩) (.agg ⟨ys⟩)) K := by
  refine ⟨_, fun w => ?_, hK⟩
  have h1 := run_eqGuard_agg (P := P) w .eql t x y ⟨xs⟩ ⟨ys⟩ hm
  have h2 := h (10000 - n) w
  rw [show 10000 - n + n = 10000 by omega] at h2
  simp only [Sem.run_bind, h1, Result.andThen_ok, run_eql_struct, h2]
theorem neqAgg {n : Nat} {t : TypeId} {x y : Operand} {xs ys : List Value} {r : Bool} (hn : n ≤ 10000) (hm : P.eqGuardType P.depth t = false) (h : EqV n P t (.agg ⟨xs⟩) (.agg ⟨ys⟩) r) {K : Value → Prop} (hK : K (.bool (!r))) :
    PureRun P (do eqGuard .neq t x y (.agg ⟨xs⟩) (.agg ⟨ys⟩); binOp .neq t (.agg ⟨xs⟩) (.agg ⟨ys⟩)) K := by
  refine ⟨_, fun w => ?_, hK⟩
  have h1 := run_eqGuard_agg (P := P) w .neq t x y ⟨xs⟩ ⟨ys⟩ hm
  have h2 := h (10000 - n) w
  rw [show 10000 - n + n = 10000 by omega] at h2
  simp only [Sem.run_bind, h1, Result.andThen_ok, run_neq_struct, h2]
end
end Go.Eng
namespace Go.Eng
open Go
theorem nodup_chunk {w0 w : World} {T : List Nat} {b : Nat} {o : Obj} {H L : Heap} {F : Heap → Heap} (hS : St w0 T ((b, o) :: H) w) [hc : Chunk H L F] : b ∉ keys L := by
  obtain ⟨A, B, h1, -⟩ := hc.at_
  have := hS.nd
  rw [h1] at this
  simp only [keys, List.map_cons, List.map_append, List.nodup_cons] at this
  intro h
  exact this.1 (List.mem_append_right _ (List.mem_append_left _ h))
theorem St.arrAt {w0 w : World} {T : List Nat} {H : Heap} {b off : Nat} {l xs : List Value} {t : TypeId} {fz : Nat × Nat} {F : Obj → Heap} (hS : St w0 T H w) [Slot H b (.cells ⟨l⟩ t fz) F]
    (hx : (l.drop off).take xs.length = xs) {T' : List Nat} (hb : b ∉ T') : Arr w T' (some ⟨b, off, none⟩) xs := fun j x hj => ⟨b, off, rfl, hb, by
      rw [← hx, List.getElem?_take] at hj
      split at hj
      · rw [List.getElem?_drop] at hj; exact hS.cell hj
      · cases hj⟩
theorem nodup_last {w0 w : World} {T : List Nat} {x : Nat × Obj} {L : Heap} {b : Nat} {o : Obj} (hS : St w0 T (x :: (L ++ [(b, o)])) w) : b ∉ keys L := by
  have := hS.nd
  rw [keys, List.map_cons, List.nodup_cons, List.map_append, List.nodup_append] at this
  intro h
  exact this.2.2.2 _ h _ (by simp) rfl
end Go.Eng
namespace Go.Proofs.YtinkmidjbdnibaaGreatDoor
open Go Go.Eng Go.Proofs
set_option maxHeartbeats 1000000 in
theorem marks_spec {w : World} {b : Nat} {bs : Bytes} {L : Heap} (hW : PackW b bs L) (hh : Holds L w) {a : Option Addr} {cap : Nat} {l : List Bool} (ha : Arr w (keys L) a (l.map Value.bool)) (hl : l.length ≤ 8) (hlen : bs.length ≤ 70368744177664) :
    Cl Tryz.prog f_rows_writer_marks [.agg ⟨[ptr b]⟩, .slice a l.length cap] w fun _ w' => ∃ L', PackW b (bs ++ numB (marksN l)) L' ∧ St w (keys L) L' w' := by
  have hS := St.enter hh
  generalize hT : keys L = T0 at hS ha ⊢
  refine en_rows_writer_marks rfl ?_
  refine jq ⟨?_⟩
  refine hS.al ?_
  intro tb w1 _ hS
  refine jq ⟨?_⟩
  refine SemW.loop (fun k : Nat => [(2, ptr tb), (4, .int .u64 (marksN (l.take k) : Nat)), (7, .slice a l.length cap), (8, .int .i64 l.length), (9, .int .i64 k)])
    (fun k w' => k ≤ l.length ∧ St w T0 ((tb, .cells ⟨[ptr b]⟩ T_rows_writer (0, 0)) :: L) w') (fun k => l.length - k) 0
    ⟨rfl, rfl, rfl, rfl, rfl, trivial⟩ ⟨Nat.zero_le _, hS⟩ ?_
  rintro k w2 ⟨hk, hS⟩
  by_cases hkl : k < l.length
  · obtain ⟨b', off', rfl, hbT, hck⟩ := ha.get (j := k) (by simp; omega)
    simp only [List.getElem_map] at hck
    have hsn := marksN_snoc (l.take k) l[k]
    rw [← List.take_succ_eq_append_getElem hkl] at hsn
    have hlt := marksN_lt (l.take k)
    have htk : (l.take k).length = k := by simp; omega
    rw [htk] at hlt hsn
    have hk8 : 2 ^ k ≤ 2 ^ 7 := Nat.pow_le_pow_right (by omega) (by omega)
    generalize marksN (l.take k) = m at hsn hlt ⊢
    refine jq ⟨?_⟩
    refine hS.ldOld hbT (by simpa using hck) ?_
    generalize l[k] = bit at hsn ⊢
    cases bit with
    | true =>
      simp only [if_true] at hsn
      have e1 : orI .u64 (m : Int) (IntKind.u64.wrap (1 * 2 ^ (min ((k : Int)).toNat IntKind.u64.bits))) = ((m + 2 ^ k : Nat) : Int) := by
        rw [show min ((k : Int)).toNat IntKind.u64.bits = k by show min _ 64 = _; omega]
        have e2 : (1 : Int) * 2 ^ k = ((2 ^ k : Nat) : Int) := by simp
        have e3 : 2 ^ k % 2 ^ IntKind.u64.bits = 2 ^ k := Nat.mod_eq_of_lt (show 2 ^ k < 18446744073709551616 by omega)
        rw [e2, wrapU .u64 rfl, e3, orU .u64 rfl _ _ (show m < 18446744073709551616 by omega) (show 2 ^ k < 18446744073709551616 by omega), Nat.or_comm]
        have := or_add 1 m k hlt
        rw [Nat.one_mul] at this
        rw [this, Nat.add_comm]
      refine jq ⟨?_⟩
      rw [e1]
      refine jq ⟨?_⟩
      exact ⟨k + 1, ⟨rfl, congrArg (Value.int .u64) (by rw [hsn]), rfl, rfl, rfl, trivial⟩, ⟨by omega, hS⟩, by omega⟩
    | false =>
      simp only [Bool.false_eq_true, if_false, Nat.add_zero] at hsn
      refine jq ⟨?_⟩
      exact ⟨k + 1, ⟨rfl, congrArg (Value.int .u64) (by rw [hsn]), rfl, rfl, rfl, trivial⟩, ⟨by omega, hS⟩, by omega⟩
  · have hke : k = l.length := by omega
    subst hke
    rw [List.take_length]
    have hlt := marksN_lt l
    have hk8 : 2 ^ l.length ≤ 2 ^ 8 := Nat.pow_le_pow_right (by omega) hl
    (repeat (refine jt ⟨?_⟩; refine hS.st rfl rfl ?_; intro _ hS)); refine jt ⟨?_⟩
    refine hS.al ?_
    intro r w3 _ hS
    (repeat (refine jt ⟨?_⟩; refine hS.st rfl rfl ?_; intro _ hS)); refine jt ⟨?_⟩
    refine Cl.mono (Num_spec hW (hS.part (L := L)) (ns := [marksN l]) (hS.arr (b := r) (nodup_chunk hS)) (by intro n hn; simp only [List.mem_cons, List.mem_nil_iff, or_false] at hn; subst hn; omega) (by simp) (by simp; omega)) ?_
    rintro _ w4 ⟨L1, hW1, hS'⟩
    have hS := hS.call (L := L) hS'
    refine jq ⟨?_⟩
    refine ⟨L1, ?_, hS.sub ((List.sublist_cons_self _ _).trans (List.sublist_cons_self _ _))⟩
    simpa using hW1
set_option maxHeartbeats 4000000 in
theorem equip_spec {w : World} (e : EquipM) {a : Option Addr} {cap : Nat} (hR : RSl 5 RRow w [.slice a e.rows.length cap] e.rows) (hok : ∀ r ∈ e.rows, r.ok) (hw : rowsW e.rows ≤ 8388608) :
    Cl Tryz.prog f_rows_equip [.agg ⟨[.int .i64 e.id, .slice a e.rows.length cap]⟩] w fun v w' => v = Str (equipB e) ∧ St w [] [] w' := by
  have hS := St.start w
  have hwl := rowsW_len e.rows
  refine en_rows_equip rfl ?_
  refine jq ⟨?_⟩
  refine hS.al ?_
  intro b1 w1 _ hS
  refine jq ⟨?_⟩
  refine Cl.mono PNew_spec ?_
  rintro _ w2 ⟨pb, L, rfl, hW, hS'⟩
  have hS := hS.callNew hS'
  refine jq ⟨?_⟩
  refine hS.al ?_
  intro b3 w3 _ hS
  (repeat (refine jt ⟨?_⟩; refine hS.st rfl rfl ?_; intro _ hS)); refine jt ⟨?_⟩
  rename_i w3'
  have hS : St w [] ((b3, .cells ⟨[ptr pb]⟩ T_rows_writer (0, 0)) :: (L ++ [(b1, .cells ⟨[.int .i64 e.id, .slice a e.rows.length cap]⟩ T_api_Equip (0, 0))])) w3' := hS
  refine hS.al ?_
  intro r w4 _ hS
  (repeat (refine jt ⟨?_⟩; refine hS.st rfl rfl ?_; intro _ hS)); refine jt ⟨?_⟩
  refine Cl.mono (Num_spec hW (hS.part (L := L)) (ns := [e.rows.length]) (hS.arr (b := r) (nodup_chunk hS)) (by intro n hn; simp only [List.mem_cons, List.mem_nil_iff, or_false] at hn; subst hn; omega) (by simp) (by simp)) ?_
  rintro _ w5 ⟨L1, hW, hS'⟩
  have hS := hS.call (L := L) hS'
  have hW : PackW pb (numB e.rows.length) L1 := by simpa using hW
  have hS := hS.sub (List.sublist_cons_self _ _)
  have hnl := numB_len10 e.rows.length (by omega)
  (repeat (refine jt ⟨?_⟩; refine hS.st rfl rfl ?_; intro _ hS)); refine jt ⟨?_⟩
  refine SemW.loop (fun k : Nat => [(3, ptr b3), (17, .slice a e.rows.length cap), (18, .int .i64 e.rows.length), (19, .int .i64 k)])
    (fun k w' => k ≤ e.rows.length ∧ ∃ L, PackW pb (numB e.rows.length ++ rowsBt (e.rows.take k)) L ∧ St w [] ((b3, .cells ⟨[ptr pb]⟩ T_rows_writer (0, 0)) :: (L ++ [(b1, .cells ⟨[.int .i64 e.id, .slice a e.rows.length cap]⟩ T_api_Equip (0, 0))])) w') (fun k => e.rows.length - k) 0
    ⟨rfl, rfl, rfl, rfl, trivial⟩ ⟨Nat.zero_le _, L1, by simpa [rowsBt] using hW, hS⟩ ?_
  clear hS hW hS'
  rintro k w6 ⟨hk, L2, hW, hS⟩
  have htw := rowsW_take e.rows k
  have hbl := rowsBt_len (e.rows.take k) (fun r hr => hok r (List.mem_of_mem_take hr)) (by omega)
  by_cases hkl : k < e.rows.length
  · obtain ⟨g, off, cs, rfl, ⟨rfl, hrok⟩, hld⟩ := RSl.ldn (hS.sub (H' := []) (List.nil_sublist _)) hR hkl
    have hsucc := rowsBt_succ e.rows k hkl
    have hat := rowsW_at e.rows k hkl
    generalize e.rows[k] = row at hrok hld hat hsucc
    have hrl := rowB_len row hrok (by omega)
    refine jq ⟨?_⟩
    have hil := ints_len [row.num, row.cab, row.zone] (by
      intro z hz
      simp only [List.mem_cons, List.mem_nil_iff, or_false] at hz
      rcases hz with rfl | rfl | rfl
      · exact hrok.num
      · exact hrok.cab
      · exact hrok.zone)
    have hml := numB_len10 (marksN [row.exit]) (by have h3' : marksN [row.exit] < 2 := marksN_lt [row.exit]; omega)
    have hsl : sumLen [row.seats] = row.seats.length := by simp [sumLen]
    simp only [List.length_cons, List.length_nil] at hil
    refine hld _ ?_
    unfold rowC
    refine jq ⟨?_⟩
    refine hS.al ?_
    intro b5 w7 _ hS
    (repeat (refine jt ⟨?_⟩; refine hS.st rfl rfl ?_; intro _ hS)); refine jt ⟨?_⟩
    refine hS.al ?_
    intro r2 w8 _ hS
    (repeat (refine jt ⟨?_⟩; refine hS.st rfl rfl ?_; intro _ hS)); refine jt ⟨?_⟩
    refine Cl.mono (Int_spec hW (hS.part (L := L2)) (zs := [row.num, row.cab, row.zone]) (hS.arr (b := r2) (nodup_chunk hS)) (by
      intro z hz
      simp only [List.mem_cons, List.mem_nil_iff, or_false] at hz
      rcases hz with rfl | rfl | rfl
      · exact hrok.num
      · exact hrok.cab
      · exact hrok.zone) (by simp) (by simp; omega)) ?_
    rintro _ w9 ⟨L3, hW, hS'⟩
    have hS := hS.call (L := L2) hS'
    (repeat (refine jt ⟨?_⟩; refine hS.st rfl rfl ?_; intro _ hS)); refine jt ⟨?_⟩
    refine hS.al ?_
    intro r3 w10 _ hS
    (repeat (refine jt ⟨?_⟩; refine hS.st rfl rfl ?_; intro _ hS)); refine jt ⟨?_⟩
    refine Cl.mono (marks_spec hW (hS.part (L := L3)) (l := [row.exit]) (hS.arr (b := r3) (nodup_chunk hS)) (by simp) (by simp only [List.length_append]; omega)) ?_
    rintro _ w11 ⟨L4, hW, hS'⟩
    have hS := hS.call (L := L3) hS'
    (repeat (refine jt ⟨?_⟩; refine hS.st rfl rfl ?_; intro _ hS)); refine jt ⟨?_⟩
    refine hS.al ?_
    intro r4 w12 _ hS
    (repeat (refine jt ⟨?_⟩; refine hS.st rfl rfl ?_; intro _ hS)); refine jt ⟨?_⟩
    refine Cl.mono (Text_spec hW (hS.part (L := L4)) (ss := [row.seats]) (hS.arr (b := r4) (nodup_chunk hS)) (by rw [hsl]; simp only [List.length_append, List.length_singleton]; omega)) ?_
    rintro _ w13 ⟨L5, hW, hS'⟩
    have hS := hS.call (L := L4) hS'
    refine jq ⟨?_⟩
    exact ⟨k + 1, ⟨rfl, rfl, rfl, rfl, trivial⟩, ⟨by omega, L5, by rw [hsucc]; simpa [rowB] using hW, hS.sub ((List.sublist_cons_self _ _).trans ((List.sublist_cons_self _ _).trans ((List.sublist_cons_self _ _).trans (List.sublist_cons_self _ _))))⟩, by omega⟩
  · have hke : k = e.rows.length := by omega
    subst hke
    rw [List.take_length] at hW hbl
    (repeat (refine jt ⟨?_⟩; refine hS.st rfl rfl ?_; intro _ hS)); refine jt ⟨?_⟩
    refine Cl.mono (Bytes_spec hW (hS.part (L := L2))) ?_
    rintro _ w7 ⟨rfl, hS'⟩
    refine jq ⟨?_⟩
    exact ⟨rfl, (hS.call (L := L2) hS').nil⟩
theorem eqSeat (a : Int) (c : Nat) (b : Int) (d : Nat) : EqV 2 Tryz.prog T_api_Seat (seatV a c) (seatV b d) (decide (a = b ∧ c = d)) := by
  have h : EqV 2 Tryz.prog T_api_Seat (seatV a c) (seatV b d) (decide (a = b) && (decide ((c : Int) = (d : Int)) && true)) := by
    refine EqV.struct (d := [(T_int, 0), (T_uint8, 1)]) (by kernel_rfl) (by kernel_rfl) (by kernel_rfl) ?_
    refine EqFs.cons (PartIs.one tblOk rfl rfl rfl) (PartIs.one tblOk rfl rfl rfl) (EqV.int tblOk rfl rfl _ _) ?_
    exact EqFs.cons (PartIs.one tblOk rfl rfl rfl) (PartIs.one tblOk rfl rfl rfl) (EqV.int tblOk rfl rfl _ _) EqFs.nil
  have e : decide (a = b ∧ c = d) = (decide (a = b) && (decide ((c : Int) = (d : Int)) && true)) := by
    rw [Bool.eq_iff_iff]; simp; omega
  rw [e]; exact h
set_option maxHeartbeats 4000000 in
theorem flight_spec {w : World} (f : FlightM) (hf : f.ok) : Cl Tryz.prog f_rows_flight [.agg ⟨flC f⟩] w fun v w' => v = Str (flightB f) ∧ St w [] [] w' := by
  have hS := St.start w
  have hil := ints_len _ hf.head
  unfold flC
  refine en_rows_flight rfl ?_
  refine jq ⟨?_⟩
  refine hS.al ?_
  intro b1 w1 _ hS
  refine jq ⟨?_⟩
  refine Cl.mono PNew_spec ?_
  rintro _ w2 ⟨pb, L, rfl, hW, hS'⟩
  have hS := hS.callNew hS'
  refine jq ⟨?_⟩
  refine hS.al ?_
  intro b3 w3 _ hS
  (repeat (refine jt ⟨?_⟩; refine hS.st rfl rfl ?_; intro _ hS)); refine jt ⟨?_⟩
  refine hS.al ?_
  intro r w4 _ hS
  (repeat (refine jt ⟨?_⟩; refine hS.st rfl rfl ?_; intro _ hS)); refine jt ⟨?_⟩
  refine Cl.mono (Int_spec hW (hS.part (L := L)) (zs := [f.equip, f.phase, f.seq]) (hS.arr (b := r) (nodup_chunk hS)) hf.head (by simp) (by simp)) ?_
  rintro _ w5 ⟨L1, hW, hS'⟩
  have hS := hS.call (L := L) hS'
  have hS : St w [] ((b3, .cells ⟨[ptr pb]⟩ T_rows_writer (0, 0)) :: (L1 ++ [(b1, .cells ⟨flC f⟩ T_api_Flight (0, 0))])) w5 := hS.sub (List.sublist_cons_self _ _)
  clear hS'
  unfold flC at hS
  refine jq ⟨?_⟩
  refine SemW.draw tblOk mixed (fun w' => St w [] ((b3, .cells ⟨[ptr pb]⟩ T_rows_writer (0, 0)) :: (L1 ++ [(b1, .cells ⟨flC f⟩ T_api_Flight (0, 0))])) w') [4] [0, 1, 2, 3, 4] (by kernel_rfl) hS.drew ?_
  have hS := hS.drew
  generalize w5.drew = w5 at hS
  refine jr ⟨?_⟩
  refine sliceArrA tblOk rfl rfl ?_
  refine jr ⟨?_⟩
  refine Cl.mono (Int_spec hW (hS.part (L := L1)) (zs := [f.l0, f.l1, f.l2, f.l3]) (hS.arrAt (b := b1) (off := 4) rfl (nodup_last hS)) hf.limits (by simp) (by simp only [List.length_append, List.length_cons, List.length_nil] at hil ⊢; omega)) ?_
  rintro _ w6 ⟨L2, hW, hS'⟩
  have hS := hS.call (L := L1) hS'
  (repeat (refine jt ⟨?_⟩; refine hS.st rfl rfl ?_; intro _ hS)); refine jt ⟨?_⟩
  refine Cl.mono (Bytes_spec hW (hS.part (L := L2))) ?_
  rintro _ w7 ⟨rfl, hS'⟩
  refine jq ⟨?_⟩
  exact ⟨rfl, (hS.call (L := L2) hS').nil⟩
set_option maxHeartbeats 4000000 in
theorem pax_spec {w : World} (p : PaxM) (hp : p.ok) : Cl Tryz.prog f_rows_pax [.agg ⟨paxC p⟩] w fun v w' => v = Str (paxB p) ∧ St w [] [] w' := by
  have hS := St.start w
  have hil := ints_len _ hp.head
  have hml := numB_len10 (marksN [p.fit, p.infant, p.vol, p.stb]) (by have := marks4_lt p.fit p.infant p.vol p.stb; omega)
  simp only [List.length_cons, List.length_nil] at hil
  have hpc := hp.c
  unfold paxC
  refine en_rows_pax rfl ?_
  refine jq ⟨?_⟩
  refine hS.al ?_
  intro b1 w1 _ hS
  refine jq ⟨?_⟩
  refine Cl.mono PNew_spec ?_
  rintro _ w2 ⟨pb, L, rfl, hW, hS'⟩
  have hS := hS.callNew hS'
  refine jq ⟨?_⟩
  refine hS.al ?_
  intro b3 w3 _ hS
  (repeat (refine jt ⟨?_⟩; refine hS.st rfl rfl ?_; intro _ hS)); refine jt ⟨?_⟩
  refine hS.al ?_
  intro r w4 _ hS
  (repeat (refine jt ⟨?_⟩; refine hS.st rfl rfl ?_; intro _ hS)); refine jt ⟨?_⟩
  refine Cl.mono (Int_spec hW (hS.part (L := L)) (zs := [p.flight, p.cab, p.cls, p.status, p.tick, p.pass]) (hS.arr (b := r) (nodup_chunk hS)) hp.head (by simp) (by simp)) ?_
  rintro _ w5 ⟨L1, hW, hS'⟩
  have hS := hS.call (L := L) hS'
  have hS := hS.sub (List.sublist_cons_self _ _)
  (repeat (refine jt ⟨?_⟩; refine hS.st rfl rfl ?_; intro _ hS)); refine jt ⟨?_⟩
  refine hS.al ?_
  intro r2 w6 _ hS
  (repeat (refine jt ⟨?_⟩; refine hS.st rfl rfl ?_; intro _ hS)); refine jt ⟨?_⟩
  refine Cl.mono (marks_spec hW (hS.part (L := L1)) (l := [p.fit, p.infant, p.vol, p.stb]) (hS.arr (b := r2) (nodup_chunk hS)) (by simp) (by rw [List.nil_append]; omega)) ?_
  rintro _ w7 ⟨L2, hW, hS'⟩
  have hS := hS.call (L := L1) hS'
  have hS := hS.sub (List.sublist_cons_self _ _)
  (repeat (refine jt ⟨?_⟩; refine hS.st rfl rfl ?_; intro _ hS)); refine jt ⟨?_⟩
  refine neqAgg (n := 2) (by omega) (by kernel_rfl) (eqSeat p.num p.c 0 0) ?_
  have hsl : sumLen [seatB p.num p.c] = (seatB p.num p.c).length := by simp [sumLen]
  have hsb := seatB_len p.num p.c
  by_cases hz : p.num = 0 ∧ p.c = 0
  · have hz1 : decide (p.num = 0 ∧ p.c = 0) = true := decide_eq_true hz
    have hz2 : seatB p.num p.c = [] := if_pos hz
    rw [hz1, Bool.not_true]
    have hem : Value.string { data := #[] } = Str [] := rfl
    (repeat (refine jt ⟨?_⟩; refine hS.st rfl rfl ?_; intro _ hS)); refine jt ⟨?_⟩
    refine hS.al ?_
    intro r3 w9 _ hS
    (repeat (refine jt ⟨?_⟩; refine hS.st rfl rfl ?_; intro _ hS)); refine jt ⟨?_⟩
    refine Cl.mono (Text_spec hW (hS.part (L := L2)) (ss := [seatB p.num p.c]) (by rw [hz2]; exact hS.arr (b := r3) (nodup_chunk hS)) (by rw [hsl]; simp only [List.nil_append, List.length_append, List.length_singleton]; omega)) ?_
    rintro _ w10 ⟨L3, hW, hS'⟩
    have hS := hS.call (L := L2) hS'
    (repeat (refine jt ⟨?_⟩; refine hS.st rfl rfl ?_; intro _ hS)); refine jt ⟨?_⟩
    refine Cl.mono (Bytes_spec hW (hS.part (L := L3))) ?_
    rintro _ w11 ⟨rfl, hS'⟩
    refine jq ⟨?_⟩
    refine ⟨?_, (hS.call (L := L3) hS').nil⟩
    simp [paxB, textsB]
  · have hz1 : decide (p.num = 0 ∧ p.c = 0) = false := decide_eq_false hz
    have hz2 : seatB p.num p.c = labelB p.num p.c := if_neg hz
    rw [hz1, Bool.not_false]
    (repeat (refine jt ⟨?_⟩; refine hS.st rfl rfl ?_; intro _ hS)); refine jt ⟨?_⟩
    refine Cl.mono (Label_spec p.num p.c hpc) ?_
    rintro _ w8 ⟨rfl, hS'⟩
    have hS := hS.call0 hS'
    (repeat (refine jt ⟨?_⟩; refine hS.st rfl rfl ?_; intro _ hS)); refine jt ⟨?_⟩
    refine hS.al ?_
    intro r3 w9 _ hS
    (repeat (refine jt ⟨?_⟩; refine hS.st rfl rfl ?_; intro _ hS)); refine jt ⟨?_⟩
    refine Cl.mono (Text_spec hW (hS.part (L := L2)) (ss := [seatB p.num p.c]) (by rw [hz2]; exact hS.arr (b := r3) (nodup_chunk hS)) (by rw [hsl]; simp only [List.nil_append, List.length_append, List.length_singleton]; omega)) ?_
    rintro _ w10 ⟨L3, hW, hS'⟩
    have hS := hS.call (L := L2) hS'
    (repeat (refine jt ⟨?_⟩; refine hS.st rfl rfl ?_; intro _ hS)); refine jt ⟨?_⟩
    refine Cl.mono (Bytes_spec hW (hS.part (L := L3))) ?_
    rintro _ w11 ⟨rfl, hS'⟩
    refine jq ⟨?_⟩
    refine ⟨?_, (hS.call (L := L3) hS').nil⟩
    simp [paxB, textsB]
def Rises (l : List Int) : Prop := ∀ (i : Nat) (h : i + 1 < l.length), l[i] < l[i + 1]
theorem id_1_spec {w : World} (n : Int) (v : Value) : Cl Tryz.prog f_rows_inForm_1 [.agg ⟨[.int .i64 n, v]⟩] w fun r w' => r = .int .i64 n ∧ St w [] [] w' := by
  have hS := St.start w
  refine en_rows_inForm_1 rfl ?_
  refine jq ⟨?_⟩
  refine hS.al ?_
  intro b w1 _ hS
  (repeat (refine jt ⟨?_⟩; refine hS.st rfl rfl ?_; intro _ hS)); refine jt ⟨?_⟩
  exact ⟨rfl, hS.nil⟩
theorem id_2_spec {w : World} (f : FlightM) : Cl Tryz.prog f_rows_inForm_2 [.agg ⟨flC f⟩] w fun r w' => r = .int .i64 f.id ∧ St w [] [] w' := by
  have hS := St.start w
  unfold flC
  refine en_rows_inForm_2 rfl ?_
  refine jq ⟨?_⟩
  refine hS.al ?_
  intro b w1 _ hS
  (repeat (refine jt ⟨?_⟩; refine hS.st rfl rfl ?_; intro _ hS)); refine jt ⟨?_⟩
  exact ⟨rfl, hS.nil⟩
theorem id_3_spec {w : World} (f : PaxM) : Cl Tryz.prog f_rows_inForm_3 [.agg ⟨paxC f⟩] w fun r w' => r = .int .i64 f.id ∧ St w [] [] w' := by
  have hS := St.start w
  unfold paxC
  refine en_rows_inForm_3 rfl ?_
  refine jq ⟨?_⟩
  refine hS.al ?_
  intro b w1 _ hS
  (repeat (refine jt ⟨?_⟩; refine hS.st rfl rfl ?_; intro _ hS)); refine jt ⟨?_⟩
  exact ⟨rfl, hS.nil⟩
set_option maxHeartbeats 4000000 in
theorem rising_Equip_spec {w : World} {a : Option Addr} {n cap : Nat} {xs : List EquipM} (hn : n = xs.length) (hR : RSl 2 REquip w [.slice a n cap] xs) (hlen : n ≤ 8388608) :
    Cl Tryz.prog f_rows_rising_api_Equip [.slice a n cap, .func (.func f_rows_inForm_1) #[] #[]] w fun v w' => (∃ bv : Bool, v = .bool bv ∧ (bv = true ↔ Rises (xs.map (fun x => x.id)))) ∧ St w [] [] w' := by
  have hS := St.start w
  subst hn
  refine en_rows_rising_api_Equip rfl ?_
  refine jq ⟨?_⟩
  refine SemW.loop (fun k : Nat => [(0, .slice a xs.length cap), (1, .func (.func f_rows_inForm_1) #[] #[]), (5, .int .i64 ((k + 1 : Nat) : Int))])
    (fun k w' => (∀ i (h1 : i + 1 < k + 1) (h2 : i + 1 < xs.length), xs[i].id < xs[i + 1].id) ∧ St w [] [] w') (fun k => xs.length - k) 0
    ⟨rfl, rfl, rfl, trivial⟩ ⟨fun i h => by omega, hS⟩ ?_
  clear hS
  rintro k w1 ⟨hlt, hS⟩
  by_cases hk : k + 1 < xs.length
  · obtain ⟨g, off, cs1, rfl, hr1, hld1⟩ := RSl.ldnC hR (show k < xs.length by omega)
    obtain ⟨g', off', cs2, hg', hr2, hld2⟩ := RSl.ldnC hR hk
    simp only [Option.some.injEq, Addr.mk.injEq, and_true] at hg'
    obtain ⟨rfl, rfl⟩ := hg'
    obtain ⟨v1, rfl, -⟩ := hr1
    obtain ⟨v2, rfl, -⟩ := hr2
    refine jq ⟨?_⟩
    refine SemW.draw tblOk mixed (fun w' => St w [] [] w') [12, 13] [0, 1, 2, 3, 4, 5, 7, 8, 9, 10, 11, 6, 12, 13] (by kernel_rfl) hS.drew ?_
    have hS := hS.drew
    generalize w1.drew = w1 at hS
    refine jr ⟨?_⟩
    rw [show (((k + 1 : Nat) : Int) - 1) = (k : Int) by omega]
    refine jr ⟨?_⟩
    refine hld1 _ ?_
    refine jr ⟨?_⟩
    refine hld2 _ ?_
    refine jr ⟨?_⟩
    refine Cl.mono (id_1_spec _ _) ?_
    rintro _ w2 ⟨rfl, hS'⟩
    have hS := hS.call0 hS'
    refine Chk.mk hS ?_
    refine Cl.mono (id_1_spec _ _) ?_
    rintro _ w3 ⟨rfl, hS'⟩
    have hS := hS.call0 hS'
    by_cases hle : xs[k].id < xs[k + 1].id
    · refine jq ⟨?_⟩
      refine ⟨k + 1, ⟨rfl, rfl, rfl, trivial⟩, ⟨fun i h1 h2 => ?_, hS⟩, by omega⟩
      by_cases hik : i = k
      · subst hik; exact hle
      · exact hlt i (by omega) h2
    · refine jq ⟨?_⟩
      refine ⟨⟨false, rfl, ?_⟩, hS⟩
      simp only [Bool.false_eq_true, false_iff]
      intro h
      have := h k (by simpa using hk)
      simp only [List.getElem_map] at this
      exact hle this
  · refine jq ⟨?_⟩
    refine ⟨⟨true, rfl, ?_⟩, hS⟩
    simp only [true_iff]
    intro i h
    simp only [List.length_map] at h
    simp only [List.getElem_map]
    exact hlt i (by omega) h
set_option maxHeartbeats 4000000 in
theorem rising_Flight_spec {w : World} {a : Option Addr} {n cap : Nat} {xs : List FlightM} (hn : n = xs.length) (hR : RSl 8 RFlight w [.slice a n cap] xs) (hlen : n ≤ 8388608) :
    Cl Tryz.prog f_rows_rising_api_Flight [.slice a n cap, .func (.func f_rows_inForm_2) #[] #[]] w fun v w' => (∃ bv : Bool, v = .bool bv ∧ (bv = true ↔ Rises (xs.map (fun x => x.id)))) ∧ St w [] [] w' := by
  have hS := St.start w
  subst hn
  refine en_rows_rising_api_Flight rfl ?_
  refine jq ⟨?_⟩
  refine SemW.loop (fun k : Nat => [(0, .slice a xs.length cap), (1, .func (.func f_rows_inForm_2) #[] #[]), (5, .int .i64 ((k + 1 : Nat) : Int))])
    (fun k w' => (∀ i (h1 : i + 1 < k + 1) (h2 : i + 1 < xs.length), xs[i].id < xs[i + 1].id) ∧ St w [] [] w') (fun k => xs.length - k) 0
    ⟨rfl, rfl, rfl, trivial⟩ ⟨fun i h => by omega, hS⟩ ?_
  clear hS
  rintro k w1 ⟨hlt, hS⟩
  by_cases hk : k + 1 < xs.length
  · obtain ⟨g, off, cs1, rfl, hr1, hld1⟩ := RSl.ldnC hR (show k < xs.length by omega)
    obtain ⟨g', off', cs2, hg', hr2, hld2⟩ := RSl.ldnC hR hk
    simp only [Option.some.injEq, Addr.mk.injEq, and_true] at hg'
    obtain ⟨rfl, rfl⟩ := hg'
    obtain ⟨rfl, -⟩ := hr1
    obtain ⟨rfl, -⟩ := hr2
    refine jq ⟨?_⟩
    refine SemW.draw tblOk mixed (fun w' => St w [] [] w') [12, 13] [0, 1, 2, 3, 4, 5, 7, 8, 9, 10, 11, 6, 12, 13] (by kernel_rfl) hS.drew ?_
    have hS := hS.drew
    generalize w1.drew = w1 at hS
    refine jr ⟨?_⟩
    rw [show (((k + 1 : Nat) : Int) - 1) = (k : Int) by omega]
    refine jr ⟨?_⟩
    refine hld1 _ ?_
    refine jr ⟨?_⟩
    refine hld2 _ ?_
    refine jr ⟨?_⟩
    refine Cl.mono (id_2_spec _) ?_
    rintro _ w2 ⟨rfl, hS'⟩
    have hS := hS.call0 hS'
    refine Chk.mk hS ?_
    refine Cl.mono (id_2_spec _) ?_
    rintro _ w3 ⟨rfl, hS'⟩
    have hS := hS.call0 hS'
    by_cases hle : xs[k].id < xs[k + 1].id
    · refine jq ⟨?_⟩
      refine ⟨k + 1, ⟨rfl, rfl, rfl, trivial⟩, ⟨fun i h1 h2 => ?_, hS⟩, by omega⟩
      by_cases hik : i = k
      · subst hik; exact hle
      · exact hlt i (by omega) h2
    · refine jq ⟨?_⟩
      refine ⟨⟨false, rfl, ?_⟩, hS⟩
      simp only [Bool.false_eq_true, false_iff]
      intro h
      have := h k (by simpa using hk)
      simp only [List.getElem_map] at this
      exact hle this
  · refine jq ⟨?_⟩
    refine ⟨⟨true, rfl, ?_⟩, hS⟩
    simp only [true_iff]
    intro i h
    simp only [List.length_map] at h
    simp only [List.getElem_map]
    exact hlt i (by omega) h
set_option maxHeartbeats 4000000 in
theorem rising_Pax_spec {w : World} {a : Option Addr} {n cap : Nat} {xs : List PaxM} (hn : n = xs.length) (hR : RSl 13 RPax w [.slice a n cap] xs) (hlen : n ≤ 8388608) :
    Cl Tryz.prog f_rows_rising_api_Pax [.slice a n cap, .func (.func f_rows_inForm_3) #[] #[]] w fun v w' => (∃ bv : Bool, v = .bool bv ∧ (bv = true ↔ Rises (xs.map (fun x => x.id)))) ∧ St w [] [] w' := by
  have hS := St.start w
  subst hn
  refine en_rows_rising_api_Pax rfl ?_
  refine jq ⟨?_⟩
  refine SemW.loop (fun k : Nat => [(0, .slice a xs.length cap), (1, .func (.func f_rows_inForm_3) #[] #[]), (5, .int .i64 ((k + 1 : Nat) : Int))])
    (fun k w' => (∀ i (h1 : i + 1 < k + 1) (h2 : i + 1 < xs.length), xs[i].id < xs[i + 1].id) ∧ St w [] [] w') (fun k => xs.length - k) 0
    ⟨rfl, rfl, rfl, trivial⟩ ⟨fun i h => by omega, hS⟩ ?_
  clear hS
  rintro k w1 ⟨hlt, hS⟩
  by_cases hk : k + 1 < xs.length
  · obtain ⟨g, off, cs1, rfl, hr1, hld1⟩ := RSl.ldnC hR (show k < xs.length by omega)
    obtain ⟨g', off', cs2, hg', hr2, hld2⟩ := RSl.ldnC hR hk
    simp only [Option.some.injEq, Addr.mk.injEq, and_true] at hg'
    obtain ⟨rfl, rfl⟩ := hg'
    obtain ⟨rfl, -⟩ := hr1
    obtain ⟨rfl, -⟩ := hr2
    refine jq ⟨?_⟩
    refine SemW.draw tblOk mixed (fun w' => St w [] [] w') [12, 13] [0, 1, 2, 3, 4, 5, 7, 8, 9, 10, 11, 6, 12, 13] (by kernel_rfl) hS.drew ?_
    have hS := hS.drew
    generalize w1.drew = w1 at hS
    refine jr ⟨?_⟩
    rw [show (((k + 1 : Nat) : Int) - 1) = (k : Int) by omega]
    refine jr ⟨?_⟩
    refine hld1 _ ?_
    refine jr ⟨?_⟩
    refine hld2 _ ?_
    refine jr ⟨?_⟩
    refine Cl.mono (id_3_spec _) ?_
    rintro _ w2 ⟨rfl, hS'⟩
    have hS := hS.call0 hS'
    refine Chk.mk hS ?_
    refine Cl.mono (id_3_spec _) ?_
    rintro _ w3 ⟨rfl, hS'⟩
    have hS := hS.call0 hS'
    by_cases hle : xs[k].id < xs[k + 1].id
    · refine jq ⟨?_⟩
      refine ⟨k + 1, ⟨rfl, rfl, rfl, trivial⟩, ⟨fun i h1 h2 => ?_, hS⟩, by omega⟩
      by_cases hik : i = k
      · subst hik; exact hle
      · exact hlt i (by omega) h2
    · refine jq ⟨?_⟩
      refine ⟨⟨false, rfl, ?_⟩, hS⟩
      simp only [Bool.false_eq_true, false_iff]
      intro h
      have := h k (by simpa using hk)
      simp only [List.getElem_map] at this
      exact hle this
  · refine jq ⟨?_⟩
    refine ⟨⟨true, rfl, ?_⟩, hS⟩
    simp only [true_iff]
    intro i h
    simp only [List.length_map] at h
    simp only [List.getElem_map]
    exact hlt i (by omega) h
def seatFine (p : PaxM) : Prop := (p.num = 0 ∧ p.c = 0) ∨ seatOk p.num p.c = true
structure InForm (s : StateM) : Prop where
  seats : ∀ p ∈ s.pxs, seatFine p
  eqs : Rises (s.eqs.map (fun x => x.id))
  fls : Rises (s.fls.map (fun x => x.id))
  pxs : Rises (s.pxs.map (fun x => x.id))
structure StateAt (w : World) (s : StateM) (a b c : Option Addr) (ca cb cc : Nat) : Prop where
  eqs : RSl 2 REquip w [.slice a s.eqs.length ca] s.eqs
  fls : RSl 8 RFlight w [.slice b s.fls.length cb] s.fls
  pxs : RSl 13 RPax w [.slice c s.pxs.length cc] s.pxs
  bulk : (s.eqs.map fun e => rowsW e.rows + 3).sum + 9 * s.fls.length + 14 * s.pxs.length + 4 ≤ 8388608
theorem sum_ge (l : List EquipM) : 3 * l.length ≤ (l.map fun e => rowsW e.rows + 3).sum := by
  induction l with
  | nil => simp
  | cons e l ih => simp only [List.map_cons, List.sum_cons, List.length_cons]; omega
theorem sum_at (l : List EquipM) (k : Nat) (hk : k < l.length) : rowsW l[k].rows + 3 ≤ (l.map fun e => rowsW e.rows + 3).sum := by
  induction l generalizing k with
  | nil => simp at hk
  | cons e l ih =>
    simp only [List.map_cons, List.sum_cons]
    cases k with
    | zero => simp
    | succ k => have := ih k (by simpa using hk); rw [List.getElem_cons_succ]; omega
def stV (s : StateM) (a b c : Option Addr) (ca cb cc : Nat) : List Value := [.slice a s.eqs.length ca, .slice b s.fls.length cb, .slice c s.pxs.length cc]
theorem StateAt.keep {w0 w : World} {H : Heap} (hS : St w0 [] H w) {s : StateM} {a b c : Option Addr} {ca cb cc : Nat} (h : StateAt w0 s a b c ca cb cc) : StateAt w s a b c ca cb cc :=
  ⟨RSl.keep hS (fun cs x ⟨v, h1, h2, h3⟩ => ⟨v, h1, h2, RSl.keep hS (fun _ _ h => h) h3⟩) h.eqs, RSl.keep hS (fun _ _ h => h) h.fls, RSl.keep hS (fun _ _ h => h) h.pxs, h.bulk⟩
set_option maxHeartbeats 4000000 in
theorem inForm_spec {w : World} {s : StateM} {a b c : Option Addr} {ca cb cc : Nat} (hs : StateAt w s a b c ca cb cc) :
    Cl Tryz.prog f_rows_inForm [.agg ⟨stV s a b c ca cb cc⟩] w fun v w' => (∃ bv : Bool, v = .bool bv ∧ (bv = true ↔ InForm s)) ∧ St w [] [] w' := by
  have hS := St.start w
  have hbulk := hs.bulk
  have hge := sum_ge s.eqs
  unfold stV
  refine en_rows_inForm rfl ?_
  refine jq ⟨?_⟩
  refine hS.al ?_
  intro b1 w1 _ hS
  (repeat (refine jt ⟨?_⟩; refine hS.st rfl rfl ?_; intro _ hS)); refine jt ⟨?_⟩
  rename_i w2
  refine SemW.loop (fun k : Nat => [(1, ptr b1), (6, .slice c s.pxs.length cc), (7, .int .i64 s.pxs.length), (8, .int .i64 k)])
    (fun k w' => k ≤ s.pxs.length ∧ (∀ i (h : i < s.pxs.length), i < k → seatFine s.pxs[i]) ∧ St w [] [(b1, .cells ⟨stV s a b c ca cb cc⟩ T_api_State (0, 0))] w') (fun k => s.pxs.length - k) 0
    ⟨rfl, rfl, rfl, rfl, trivial⟩ ⟨Nat.zero_le _, fun i _ h => by omega, hS⟩ ?_
  clear hS
  rintro k w3 ⟨hk, hfine, hS⟩
  by_cases hkl : k < s.pxs.length
  · obtain ⟨g, off, cs, hg, ⟨rfl, hp⟩, hld⟩ := RSl.ldn (hS.sub (H' := []) (List.nil_sublist _)) hs.pxs hkl
    have hnext : seatFine s.pxs[k] → ∀ i (h : i < s.pxs.length), i < k + 1 → seatFine s.pxs[i] := fun h i h1 h2 => by
      by_cases hik : i = k
      · subst hik; exact h
      · exact hfine i h1 (by omega)
    have hno : ¬ seatFine s.pxs[k] → ¬ InForm s := fun h hi => h (hi.seats _ (List.getElem_mem hkl))
    generalize s.pxs[k] = p at hp hld hnext hno
    have hpc := hp.c
    subst hg
    refine jq ⟨?_⟩
    refine hld _ ?_
    unfold paxC
    refine jq ⟨?_⟩
    refine hS.al ?_
    intro b4 w4 _ hS
    (repeat (refine jt ⟨?_⟩; refine hS.st rfl rfl ?_; intro _ hS)); refine jt ⟨?_⟩
    refine neqAgg (n := 2) (by omega) (by kernel_rfl) (eqSeat p.num p.c 0 0) ?_
    by_cases hz : p.num = 0 ∧ p.c = 0
    · rw [decide_eq_true hz, Bool.not_true]
      (repeat (refine jt ⟨?_⟩; refine hS.st rfl rfl ?_; intro _ hS)); refine jt ⟨?_⟩
      exact ⟨k + 1, ⟨rfl, rfl, rfl, rfl, trivial⟩, ⟨by omega, hnext (.inl hz), hS.sub (List.sublist_cons_self _ _)⟩, by omega⟩
    · rw [decide_eq_false hz, Bool.not_false]
      (repeat (refine jt ⟨?_⟩; refine hS.st rfl rfl ?_; intro _ hS)); refine jt ⟨?_⟩
      refine Cl.mono (Label_spec p.num p.c hpc) ?_
      rintro _ w5 ⟨rfl, hS'⟩
      have hS := hS.call0 hS'
      have hd := labelB_dash p.num p.c
      by_cases hok : seatOk p.num p.c = true
      · have hne : ¬ labelB p.num p.c = [45] := fun h => by rw [hd.1 h] at hok; cases hok
        (repeat (refine jt ⟨?_⟩; refine hS.st rfl rfl ?_; intro _ hS)); refine jt ⟨?_⟩
        exact ⟨k + 1, ⟨rfl, rfl, rfl, rfl, trivial⟩, ⟨by omega, hnext (.inr hok), hS.sub (List.sublist_cons_self _ _)⟩, by omega⟩
      · have hne : labelB p.num p.c = [45] := hd.2 (by simpa using hok)
        (repeat (refine jt ⟨?_⟩; refine hS.st rfl rfl ?_; intro _ hS)); refine jt ⟨?_⟩
        refine ⟨⟨false, rfl, ?_⟩, hS.nil⟩
        simp only [Bool.false_eq_true, false_iff]
        exact hno (fun h => h.elim hz hok)
  · have hke : k = s.pxs.length := by omega
    subst hke
    unfold stV at hS
    have hs' := hs.keep hS
    have hseats : ∀ p ∈ s.pxs, seatFine p := fun p hp => by
      obtain ⟨i, hi, rfl⟩ := List.mem_iff_getElem.1 hp
      exact hfine i hi hi
    (repeat (refine jt ⟨?_⟩; refine hS.st rfl rfl ?_; intro _ hS)); refine jt ⟨?_⟩
    refine Cl.mono (rising_Equip_spec rfl hs'.eqs (by omega)) ?_
    rintro _ w5 ⟨⟨b1', rfl, hb1⟩, hS'⟩
    have hS := hS.call0 hS'
    have hs' := hs.keep hS
    cases b1' with
    | false =>
      (repeat (refine jt ⟨?_⟩; refine hS.st rfl rfl ?_; intro _ hS)); refine jt ⟨?_⟩
      refine ⟨⟨false, rfl, ?_⟩, hS.nil⟩
      simp only [Bool.false_eq_true, false_iff]
      exact fun h => by have := hb1.2 h.eqs; cases this
    | true =>
      (repeat (refine jt ⟨?_⟩; refine hS.st rfl rfl ?_; intro _ hS)); refine jt ⟨?_⟩
      refine Cl.mono (rising_Flight_spec rfl hs'.fls (by omega)) ?_
      rintro _ w6 ⟨⟨b2', rfl, hb2⟩, hS'⟩
      have hS := hS.call0 hS'
      have hs' := hs.keep hS
      cases b2' with
      | false =>
        (repeat (refine jt ⟨?_⟩; refine hS.st rfl rfl ?_; intro _ hS)); refine jt ⟨?_⟩
        refine ⟨⟨false, rfl, ?_⟩, hS.nil⟩
        simp only [Bool.false_eq_true, false_iff]
        exact fun h => by have := hb2.2 h.fls; cases this
      | true =>
        (repeat (refine jt ⟨?_⟩; refine hS.st rfl rfl ?_; intro _ hS)); refine jt ⟨?_⟩
        refine Cl.mono (rising_Pax_spec rfl hs'.pxs (by omega)) ?_
        rintro _ w7 ⟨⟨b3', rfl, hb3⟩, hS'⟩
        have hS := hS.call0 hS'
        (repeat (refine jt ⟨?_⟩; refine hS.st rfl rfl ?_; intro _ hS)); refine jt ⟨?_⟩
        refine ⟨⟨b3', rfl, fun h => ⟨hseats, hb1.1 rfl, hb2.1 rfl, hb3.1 h⟩, fun h => hb3.2 h.pxs⟩, hS.nil⟩
abbrev RecM := Bytes × Bytes
def opC (r : RecM) : List Value := [Str r.1, .bool false, Str r.2]
def eqRec (e : EquipM) : RecM := (keyB 101 e.id, equipB e)
def flRec (f : FlightM) : RecM := (keyB 102 f.id, flightB f)
def pxRec (p : PaxM) : RecM := (keyB 112 p.id, paxB p)
def recs (s : StateM) : List RecM := s.eqs.map eqRec ++ s.fls.map flRec ++ s.pxs.map pxRec
theorem recs_succ {α : Type} (pre : List RecM) (l : List α) (f : α → RecM) (k : Nat) (hk : k < l.length) : (pre ++ (l.take (k + 1)).map f).flatMap opC = (pre ++ (l.take k).map f).flatMap opC ++ opC (f l[k]) := by
  rw [List.take_succ_eq_append_getElem hk, List.map_append, ← List.append_assoc, List.flatMap_append]; simp
set_option maxHeartbeats 8000000 in
theorem All_spec {w : World} {s : StateM} {a b c : Option Addr} {ca cb cc : Nat} (hs : StateAt w s a b c ca cb cc) :
    Cl Tryz.prog f_rows_All [.agg ⟨stV s a b c ca cb cc⟩] w fun v w' => (¬ InForm s ∧ v = .tuple ⟨[.slice none 0 0, .int .i64 36]⟩ ∧ St w [] [] w') ∨
      (InForm s ∧ ∃ a' c' L, v = .tuple ⟨[.slice a' (recs s).length c', .int .i64 0]⟩ ∧ Vec T_api_Op 3 a' (recs s).length c' ((recs s).flatMap opC) L ∧ St w [] L w') := by
  have hS := St.start w
  have hbulk := hs.bulk
  have hge := sum_ge s.eqs
  unfold stV
  refine en_rows_All rfl ?_
  refine jq ⟨?_⟩
  refine hS.al ?_
  intro b1 w1 _ hS
  (repeat (refine jt ⟨?_⟩; refine hS.st rfl rfl ?_; intro _ hS)); refine jt ⟨?_⟩
  rename_i w2
  refine Cl.mono (inForm_spec (hs.keep hS)) ?_
  rintro _ w3 ⟨⟨bv, rfl, hbv⟩, hS'⟩
  have hS := hS.call0 hS'
  cases bv with
  | false =>
    (repeat (refine jt ⟨?_⟩; refine hS.st rfl rfl ?_; intro _ hS)); refine jt ⟨?_⟩
    exact .inl ⟨fun h => (by have := hbv.2 h; cases this), rfl, hS.nil⟩
  | true =>
    have hIn := hbv.1 rfl
    have hS : St w [] [(b1, .cells ⟨stV s a b c ca cb cc⟩ T_api_State (0, 0))] w3 := hS
    have hS0 : St w [] ([] ++ [(b1, .cells ⟨stV s a b c ca cb cc⟩ T_api_State (0, 0))]) w3 := hS
    have hv0 : Vec T_api_Op 3 none 0 0 [] [] := Vec.nil
    unfold stV at hS
    (repeat (refine jt ⟨?_⟩; refine hS.st rfl rfl ?_; intro _ hS)); refine jt ⟨?_⟩
    obtain ⟨pre1, hp1⟩ : ∃ pre : List RecM, pre = [] := ⟨_, rfl⟩
    have hl1 : pre1.length = 0 := by rw [hp1]; rfl
    obtain ⟨pre2, hp2⟩ : ∃ pre : List RecM, pre = s.eqs.map eqRec := ⟨_, rfl⟩
    have hl2 : pre2.length = s.eqs.length := by rw [hp2]; simp
    obtain ⟨pre3, hp3⟩ : ∃ pre : List RecM, pre = pre2 ++ s.fls.map flRec := ⟨_, rfl⟩
    have hl3 : pre3.length = s.eqs.length + s.fls.length := by rw [hp3]; simp [hl2]
    have hv0 : Vec T_api_Op 3 none (pre1.length + 0) 0 ((pre1 ++ (s.eqs.take 0).map eqRec).flatMap opC) [] := by rw [hl1, hp1]; exact hv0
    rw [show Value.slice none 0 0 = Value.slice none (pre1.length + 0) 0 by rw [hl1]]
    refine SemW.loop (fun x : Nat × Option Addr × Nat => [(1, ptr b1), (4, .slice x.2.1 (pre1.length + x.1) x.2.2), (15, .slice a s.eqs.length ca), (16, .int .i64 s.eqs.length), (17, .int .i64 x.1)])
      (fun x w' => x.1 ≤ s.eqs.length ∧ ∃ L, Vec T_api_Op 3 x.2.1 (pre1.length + x.1) x.2.2 ((pre1 ++ (s.eqs.take x.1).map eqRec).flatMap opC) L ∧ St w [] (L ++ [(b1, .cells ⟨stV s a b c ca cb cc⟩ T_api_State (0, 0))]) w') (fun x => s.eqs.length - x.1) (0, none, 0)
      ⟨rfl, rfl, rfl, rfl, rfl, trivial⟩ ⟨Nat.zero_le _, _, by simpa using hv0, hS0⟩ ?_
    clear hS hS0 hS' hv0
    rintro ⟨k, a1, c1⟩ w4 ⟨hk, L1, hv, hS⟩
    simp only at hk hv hS ⊢
    by_cases hkl : k < s.eqs.length
    · obtain ⟨g, off, cs, hg, hR, hld⟩ := RSl.ldn hS.nil hs.eqs hkl
      have hsucc := recs_succ pre1 s.eqs eqRec k hkl
      have hat := sum_at s.eqs k hkl
      generalize s.eqs[k] = e at hR hsucc hat
      obtain ⟨v, rfl, hid, hrows⟩ := hR
      obtain ⟨a3, c3, rfl, -, -, hrows⟩ := hrows.inv
      have hok : ∀ r ∈ e.rows, r.ok := fun r hr => by obtain ⟨cs, h⟩ := hrows.mem hr; exact h.2
      subst hg
      refine jq ⟨?_⟩
      refine hld _ ?_
      refine jq ⟨?_⟩
      refine hS.al ?_
      intro b6 w5 _ hS
      (repeat (refine jt ⟨?_⟩; refine hS.st rfl rfl ?_; intro _ hS)); refine jt ⟨?_⟩
      rename_i w6
      have hS : St w [] ((b6, .cells ⟨[.int .i64 e.id, .slice a3 e.rows.length c3]⟩ T_api_Equip (0, 0)) :: (L1 ++ [(b1, .cells ⟨stV s (some ⟨g, off, none⟩) b c ca cb cc⟩ T_api_State (0, 0))])) w6 := hS
      refine SemW.draw tblOk mixed (fun w' => St w [] ((b6, .cells ⟨[.int .i64 e.id, .slice a3 e.rows.length c3]⟩ T_api_Equip (0, 0)) :: (L1 ++ [(b1, .cells ⟨stV s (some ⟨g, off, none⟩) b c ca cb cc⟩ T_api_State (0, 0))])) w') [8, 9] [0, 1, 2, 4, 3, 5, 6, 7, 8, 9] (by kernel_rfl) hS.drew ?_
      have hS := hS.drew
      generalize w6.drew = w6 at hS
      refine jr ⟨?_⟩
      refine Cl.mono (rkey_spec 101 (by decide) e.id hid) ?_
      rintro _ w7 ⟨rfl, hS'⟩
      have hS := hS.call0 hS'
      refine Chk.mk hS ?_
      refine jr ⟨?_⟩
      refine Cl.mono (equip_spec e (RSl.keep hS.nil (fun _ _ h => h) hrows) hok (by omega)) ?_
      rintro _ w8 ⟨rfl, hS'⟩
      have hS := hS.call0 hS'
      refine Chk.mk hS ?_
      refine jr ⟨?_⟩
      refine hS.al ?_
      intro r w9 _ hS
      refine Chk.mk (hS.sub (List.sublist_cons_self _ _)) ?_
      refine jr ⟨?_⟩
      refine St.app (sz := 3) (m := 1) tblOk rfl rfl rfl rfl hS hv (news := opC (eqRec e)) rfl (by have := hS.arr (b := r) (T' := []) (by simp); exact this) rfl (by show (_ + _) * 40 ≤ _; omega) (by omega) ?_
      intro a4 c4 L4 w10 hv hS
      rw [← hsucc] at hv
      refine jq ⟨?_⟩
      exact ⟨(k + 1, a4, c4), ⟨rfl, rfl, rfl, rfl, rfl, trivial⟩, ⟨by simp only; omega, L4, hv, hS.sub ((List.sublist_cons_self _ _).trans (List.sublist_cons_self _ _))⟩, by simp only; omega⟩
    · have hke : k = s.eqs.length := by omega
      subst hke
      rw [List.take_length] at hv
      have hS0 := hS
      unfold stV at hS
      have hv0 := hv
      have hS' := hS
      rw [hp1, List.nil_append, ← hp2] at hv0
      have en : pre1.length + s.eqs.length = pre2.length + 0 := by omega
      rw [← hp1, en] at hv0
      rw [en]
      (repeat (refine jt ⟨?_⟩; refine hS.st rfl rfl ?_; intro _ hS)); refine jt ⟨?_⟩
      have hv0 : Vec T_api_Op 3 a1 (pre2.length + 0) c1 ((pre2 ++ (s.fls.take 0).map flRec).flatMap opC) L1 := by simpa using hv0
      refine SemW.loop (fun x : Nat × Option Addr × Nat => [(1, ptr b1), (4, .slice x.2.1 (pre2.length + x.1) x.2.2), (32, .slice b s.fls.length cb), (33, .int .i64 s.fls.length), (34, .int .i64 x.1)])
        (fun x w' => x.1 ≤ s.fls.length ∧ ∃ L, Vec T_api_Op 3 x.2.1 (pre2.length + x.1) x.2.2 ((pre2 ++ (s.fls.take x.1).map flRec).flatMap opC) L ∧ St w [] (L ++ [(b1, .cells ⟨stV s a b c ca cb cc⟩ T_api_State (0, 0))]) w') (fun x => s.fls.length - x.1) (0, a1, c1)
        ⟨rfl, rfl, rfl, rfl, rfl, trivial⟩ ⟨Nat.zero_le _, _, by simpa using hv0, hS0⟩ ?_
      clear hS hS0 hS' hv0
      rintro ⟨k, a1, c1⟩ w4 ⟨hk, L1, hv, hS⟩
      simp only at hk hv hS ⊢
      by_cases hkl : k < s.fls.length
      · obtain ⟨g, off, cs, hg, hR, hld⟩ := RSl.ldn hS.nil hs.fls hkl
        have hsucc := recs_succ pre2 s.fls flRec k hkl
        generalize s.fls[k] = e at hR hsucc
        obtain ⟨rfl, hok⟩ := hR
        subst hg
        refine jq ⟨?_⟩
        refine hld _ ?_
        refine jq ⟨?_⟩
        refine hS.al ?_
        intro b6 w5 _ hS
        (repeat (refine jt ⟨?_⟩; refine hS.st rfl rfl ?_; intro _ hS)); refine jt ⟨?_⟩
        rename_i w6
        have hS : St w [] ((b6, .cells ⟨flC e⟩ T_api_Flight (0, 0)) :: (L1 ++ [(b1, .cells ⟨stV s a (some ⟨g, off, none⟩) c ca cb cc⟩ T_api_State (0, 0))])) w6 := hS
        refine SemW.draw tblOk mixed (fun w' => St w [] ((b6, .cells ⟨flC e⟩ T_api_Flight (0, 0)) :: (L1 ++ [(b1, .cells ⟨stV s a (some ⟨g, off, none⟩) c ca cb cc⟩ T_api_State (0, 0))])) w') [8, 9] [0, 1, 2, 4, 3, 5, 6, 7, 8, 9] (by kernel_rfl) hS.drew ?_
        have hS := hS.drew
        generalize w6.drew = w6 at hS
        refine jr ⟨?_⟩
        refine Cl.mono (rkey_spec 102 (by decide) e.id hok.id) ?_
        rintro _ w7 ⟨rfl, hS'⟩
        have hS := hS.call0 hS'
        refine Chk.mk hS ?_
        refine jr ⟨?_⟩
        refine Cl.mono (flight_spec e hok) ?_
        rintro _ w8 ⟨rfl, hS'⟩
        have hS := hS.call0 hS'
        refine Chk.mk hS ?_
        refine jr ⟨?_⟩
        refine hS.al ?_
        intro r w9 _ hS
        refine Chk.mk (hS.sub (List.sublist_cons_self _ _)) ?_
        refine jr ⟨?_⟩
        refine St.app (sz := 3) (m := 1) tblOk rfl rfl rfl rfl hS hv (news := opC (flRec e)) rfl (by have := hS.arr (b := r) (T' := []) (by simp); exact this) rfl (by show (_ + _) * 40 ≤ _; omega) (by omega) ?_
        intro a4 c4 L4 w10 hv hS
        rw [← hsucc] at hv
        refine jq ⟨?_⟩
        exact ⟨(k + 1, a4, c4), ⟨rfl, rfl, rfl, rfl, rfl, trivial⟩, ⟨by simp only; omega, L4, hv, hS.sub ((List.sublist_cons_self _ _).trans (List.sublist_cons_self _ _))⟩, by simp only; omega⟩
      · have hke : k = s.fls.length := by omega
        subst hke
        rw [List.take_length] at hv
        have hS0 := hS
        unfold stV at hS
        have hv0 := hv
        have hS' := hS
        rw [← hp3] at hv0
        have en : pre2.length + s.fls.length = pre3.length + 0 := by omega
        rw [en] at hv0
        rw [en]
        (repeat (refine jt ⟨?_⟩; refine hS.st rfl rfl ?_; intro _ hS)); refine jt ⟨?_⟩
        have hv0 : Vec T_api_Op 3 a1 (pre3.length + 0) c1 ((pre3 ++ (s.pxs.take 0).map pxRec).flatMap opC) L1 := by simpa using hv0
        refine SemW.loop (fun x : Nat × Option Addr × Nat => [(1, ptr b1), (4, .slice x.2.1 (pre3.length + x.1) x.2.2), (49, .slice c s.pxs.length cc), (50, .int .i64 s.pxs.length), (51, .int .i64 x.1)])
          (fun x w' => x.1 ≤ s.pxs.length ∧ ∃ L, Vec T_api_Op 3 x.2.1 (pre3.length + x.1) x.2.2 ((pre3 ++ (s.pxs.take x.1).map pxRec).flatMap opC) L ∧ St w [] (L ++ [(b1, .cells ⟨stV s a b c ca cb cc⟩ T_api_State (0, 0))]) w') (fun x => s.pxs.length - x.1) (0, a1, c1)
          ⟨rfl, rfl, rfl, rfl, rfl, trivial⟩ ⟨Nat.zero_le _, _, by simpa using hv0, hS0⟩ ?_
        clear hS hS0 hS' hv0
        rintro ⟨k, a1, c1⟩ w4 ⟨hk, L1, hv, hS⟩
        simp only at hk hv hS ⊢
        by_cases hkl : k < s.pxs.length
        · obtain ⟨g, off, cs, hg, hR, hld⟩ := RSl.ldn hS.nil hs.pxs hkl
          have hsucc := recs_succ pre3 s.pxs pxRec k hkl
          generalize s.pxs[k] = e at hR hsucc
          obtain ⟨rfl, hok⟩ := hR
          subst hg
          refine jq ⟨?_⟩
          refine hld _ ?_
          refine jq ⟨?_⟩
          refine hS.al ?_
          intro b6 w5 _ hS
          (repeat (refine jt ⟨?_⟩; refine hS.st rfl rfl ?_; intro _ hS)); refine jt ⟨?_⟩
          rename_i w6
          have hS : St w [] ((b6, .cells ⟨paxC e⟩ T_api_Pax (0, 0)) :: (L1 ++ [(b1, .cells ⟨stV s a b (some ⟨g, off, none⟩) ca cb cc⟩ T_api_State (0, 0))])) w6 := hS
          refine SemW.draw tblOk mixed (fun w' => St w [] ((b6, .cells ⟨paxC e⟩ T_api_Pax (0, 0)) :: (L1 ++ [(b1, .cells ⟨stV s a b (some ⟨g, off, none⟩) ca cb cc⟩ T_api_State (0, 0))])) w') [8, 9] [0, 1, 2, 4, 3, 5, 6, 7, 8, 9] (by kernel_rfl) hS.drew ?_
          have hS := hS.drew
          generalize w6.drew = w6 at hS
          refine jr ⟨?_⟩
          refine Cl.mono (rkey_spec 112 (by decide) e.id hok.id) ?_
          rintro _ w7 ⟨rfl, hS'⟩
          have hS := hS.call0 hS'
          refine Chk.mk hS ?_
          refine jr ⟨?_⟩
          refine Cl.mono (pax_spec e hok) ?_
          rintro _ w8 ⟨rfl, hS'⟩
          have hS := hS.call0 hS'
          refine Chk.mk hS ?_
          refine jr ⟨?_⟩
          refine hS.al ?_
          intro r w9 _ hS
          refine Chk.mk (hS.sub (List.sublist_cons_self _ _)) ?_
          refine jr ⟨?_⟩
          refine St.app (sz := 3) (m := 1) tblOk rfl rfl rfl rfl hS hv (news := opC (pxRec e)) rfl (by have := hS.arr (b := r) (T' := []) (by simp); exact this) rfl (by show (_ + _) * 40 ≤ _; omega) (by omega) ?_
          intro a4 c4 L4 w10 hv hS
          rw [← hsucc] at hv
          refine jq ⟨?_⟩
          exact ⟨(k + 1, a4, c4), ⟨rfl, rfl, rfl, rfl, rfl, trivial⟩, ⟨by simp only; omega, L4, hv, hS.sub ((List.sublist_cons_self _ _).trans (List.sublist_cons_self _ _))⟩, by simp only; omega⟩
        · have hke : k = s.pxs.length := by omega
          subst hke
          rw [List.take_length] at hv
          have hS0 := hS
          unfold stV at hS
          have hv0 := hv
          have hS' := hS
          have er : pre3 ++ s.pxs.map pxRec = recs s := by rw [hp3, hp2]; rfl
          have en : pre3.length + s.pxs.length = (recs s).length := by rw [← er]; simp
          rw [er, en] at hv0
          rw [en]
          refine jq ⟨?_⟩
          exact .inr ⟨hIn, a1, c1, L1, rfl, hv0, hS.sub (List.sublist_append_left _ _)⟩
theorem bless_cons (x y : UInt8) (xs ys : Bytes) : Op.bytesLess (x :: xs) (y :: ys) = (decide (x.toNat < y.toNat) || (decide (x.toNat = y.toNat) && Op.bytesLess xs ys)) := less_cons x y xs ys
theorem bless_irrefl : ∀ x : Bytes, Op.bytesLess x x = false
  | [] => rfl
  | c :: x => by rw [bless_cons, bless_irrefl x]; simp
theorem bless_nil (x : Bytes) : Op.bytesLess x [] = false := by cases x <;> rfl
theorem bless_trans : ∀ x y z : Bytes, Op.bytesLess x y = true → Op.bytesLess y z = true → Op.bytesLess x z = true
  | _, [], _, h, _ => by rw [bless_nil] at h; cases h
  | _, _ :: _, [], _, h => by rw [bless_nil] at h; cases h
  | [], _ :: _, _ :: _, _, _ => rfl
  | a :: x, b :: y, c :: z, h1, h2 => by
    rw [bless_cons] at h1 h2 ⊢
    simp only [Bool.or_eq_true, Bool.and_eq_true, decide_eq_true_eq] at h1 h2 ⊢
    rcases h1 with h1 | ⟨h1, h1'⟩
    · rcases h2 with h2 | ⟨h2, -⟩
      · exact .inl (Nat.lt_trans h1 h2)
      · exact .inl (h2 ▸ h1)
    · rcases h2 with h2 | ⟨h2, h2'⟩
      · exact .inl (h1 ▸ h2)
      · exact .inr ⟨h1.trans h2, bless_trans x y z h1' h2'⟩
theorem bless_tri : ∀ x y : Bytes, Op.bytesLess x y = true ∨ x = y ∨ Op.bytesLess y x = true
  | [], [] => .inr (.inl rfl)
  | [], _ :: _ => .inl rfl
  | _ :: _, [] => .inr (.inr rfl)
  | a :: x, b :: y => by
    rw [bless_cons, bless_cons]
    simp only [Bool.or_eq_true, Bool.and_eq_true, decide_eq_true_eq]
    rcases Nat.lt_trichotomy a.toNat b.toNat with h | h | h
    · exact .inl (.inl h)
    · rcases bless_tri x y with h2 | h2 | h2
      · exact .inl (.inr ⟨h, h2⟩)
      · exact .inr (.inl (by rw [UInt8.toNat_inj.1 h, h2]))
      · exact .inr (.inr (.inr ⟨h.symm, h2⟩))
    · exact .inr (.inr (.inl h))
theorem bless_asym {x y : Bytes} (h : Op.bytesLess x y = true) : Op.bytesLess y x = false := by
  cases h2 : Op.bytesLess y x with
  | false => rfl
  | true => have := bless_trans x y x h h2; rw [bless_irrefl] at this; cases this
abbrev OpM := Bytes × Bool × Bytes
def rop (r : RecM) : OpM := (r.1, false, r.2)
def opDC (o : OpM) : List Value := [Str o.1, .bool o.2.1, Str o.2.2]
theorem opsC_len (l : List OpM) : (l.flatMap opDC).length = 3 * l.length := by
  induction l with
  | nil => rfl
  | cons p ps ih => rw [List.flatMap_cons, List.length_append, ih, List.length_cons]; show 3 + _ = _; omega
theorem opsC_at (l : List OpM) (k : Nat) (hk : k < l.length) : ((l.flatMap opDC).drop (k * 3)).take 3 = opDC l[k] := by
  induction l generalizing k with
  | nil => simp at hk
  | cons p ps ih =>
    cases k with
    | zero => simp only [Nat.zero_mul, List.drop_zero, List.flatMap_cons, List.getElem_cons_zero]; exact List.take_left' rfl
    | succ k =>
      rw [List.flatMap_cons, show (k + 1) * 3 = (opDC p).length + k * 3 by show _ = 3 + _; omega, List.drop_length_add_append]
      exact ih k (by simpa using hk)
theorem ropsC (l : List RecM) : (l.map rop).flatMap opDC = l.flatMap opC := by
  induction l with
  | nil => rfl
  | cons p ps ih => rw [List.map_cons, List.flatMap_cons, List.flatMap_cons, ih]; rfl
theorem eqOpD (r q : OpM) : EqV 3 Tryz.prog T_api_Op (.agg ⟨opDC r⟩) (.agg ⟨opDC q⟩) (decide (r = q)) := by
  have h : EqV 3 Tryz.prog T_api_Op (.agg ⟨opDC r⟩) (.agg ⟨opDC q⟩) (decide (r.1 = q.1) && (decide (r.2.1 = q.2.1) && (decide (r.2.2 = q.2.2) && true))) := by
    refine EqV.struct (d := [(T_string, 0), (T_bool, 1), (T_string, 2)]) (by kernel_rfl) (by kernel_rfl) (by kernel_rfl) ?_
    refine EqFs.cons (PartIs.one tblOk rfl rfl rfl) (PartIs.one tblOk rfl rfl rfl) (EqV.str tblOk rfl rfl _ _) ?_
    refine EqFs.cons (PartIs.one tblOk rfl rfl rfl) (PartIs.one tblOk rfl rfl rfl) (EqV.bool tblOk rfl rfl _ _) ?_
    exact EqFs.cons (PartIs.one tblOk rfl rfl rfl) (PartIs.one tblOk rfl rfl rfl) (EqV.str tblOk rfl rfl _ _) EqFs.nil
  have e : decide (r = q) = (decide (r.1 = q.1) && (decide (r.2.1 = q.2.1) && (decide (r.2.2 = q.2.2) && true))) := by
    rw [Bool.eq_iff_iff]; simp [Prod.ext_iff]
  rw [e]; exact h
theorem eq_from {α : Type} {l m : List α} (hn : l.length = m.length) (h : ∀ i (h1 : i < l.length) (h2 : i < m.length), l[i] = m[i]) : l = m := List.ext_getElem hn h
inductive RecV where
  | eq (e : EquipM)
  | fl (f : FlightM)
  | px (p : PaxM)
def recR : RecV → RecM
  | .eq e => eqRec e
  | .fl f => flRec f
  | .px p => pxRec p
def recOk : RecV → Prop
  | .eq e => i64b e.id ∧ RowsFine e.rows
  | .fl f => f.ok
  | .px p => p.ok ∧ seatGood p.num p.c = true
def addR (s : StateM) : RecV → StateM
  | .eq e => ⟨s.eqs ++ [e], s.fls, s.pxs⟩
  | .fl f => ⟨s.eqs, s.fls ++ [f], s.pxs⟩
  | .px p => ⟨s.eqs, s.fls, s.pxs ++ [p]⟩
def recC : RecV → UInt8
  | .eq _ => 101
  | .fl _ => 102
  | .px _ => 112
def recN : RecV → Int
  | .eq e => e.id
  | .fl f => f.id
  | .px p => p.id
theorem recR_key (R : RecV) : (recR R).1 = keyB (recC R) (recN R) := by cases R <;> rfl
theorem recC_pos : ∀ R : RecV, ¬ recC R = 0
  | .eq _ => (by decide : ¬ (101 : UInt8) = 0)
  | .fl _ => (by decide : ¬ (102 : UInt8) = 0)
  | .px _ => (by decide : ¬ (112 : UInt8) = 0)
theorem recN_ok {R : RecV} (h : recOk R) : i64b (recN R) := by
  cases R with
  | eq e => exact h.1
  | fl f => exact h.id
  | px p => exact h.1.id
theorem keyB_letter {c d : UInt8} {n m : Int} (h : keyB c n = keyB d m) : c = d := by
  unfold keyB at h
  simp only [List.cons_append, List.cons.injEq, List.nil_append] at h
  exact h.2.1
theorem rop_inj {R : RecV} {k v : Bytes} {d : Bool} (h : rop (recR R) = (k, d, v)) : k = keyB (recC R) (recN R) ∧ d = false ∧ v = (recR R).2 := by
  unfold rop at h
  simp only [Prod.mk.injEq] at h
  exact ⟨by rw [← h.1, recR_key], h.2.1.symm, h.2.2.symm⟩
theorem noRec_key {o : OpM} (h : ∀ ps, Spl o.1 ps → ∀ c n, (c = 101 ∨ c = 102 ∨ c = 112) → ps ≠ [.text [c], .num n]) : ∀ R, recOk R → rop (recR R) ≠ o := by
  intro R hR he
  obtain ⟨k, d, v⟩ := o
  obtain ⟨h1, h2, h3⟩ := rop_inj he
  have hs := spl_keyB (recC_pos R) (recN_ok hR)
  rw [← h1] at hs
  exact h _ hs _ _ (by cases R <;> simp [recC]) rfl
theorem noRec_dead {o : OpM} (h : o.2.1 = true) : ∀ R, recOk R → rop (recR R) ≠ o := by
  intro R hR he
  obtain ⟨k, d, v⟩ := o
  obtain ⟨h1, h2, h3⟩ := rop_inj he
  simp only at h
  rw [h] at h2; cases h2
theorem noRec_of {c : UInt8} {n : Int} {k v : Bytes} {d : Bool} (hk : k = keyB c n) (h : ∀ R, recOk R → recC R = c → v ≠ (recR R).2) : ∀ R, recOk R → rop (recR R) ≠ (k, d, v) := by
  intro R hR he
  obtain ⟨h1, h2, h3⟩ := rop_inj he
  exact h R hR (keyB_letter (n := recN R) (m := n) (by rw [← h1, hk])) h3
def doneR (s : RB) : Bool := !s.bad && decide (s.t = [])
theorem doneR_iff {s : RB} : doneR s = true ↔ s.bad = false ∧ s.t = [] := by unfold doneR; simp
theorem codec_done {α : Type} {D : RB → α × RB} {E : α → Bytes} {ok : α → Prop} (h : Codec D E ok) {v : Bytes} (hd : doneR (D ⟨v, false⟩).2 = true) : v = E (D ⟨v, false⟩).1 ∧ ok (D ⟨v, false⟩).1 := by
  obtain ⟨h1, h2⟩ := doneR_iff.1 hd
  obtain ⟨-, h3, h4⟩ := h.good _ h1
  rw [h2, List.append_nil] at h3
  exact ⟨h3, h4⟩
theorem codec_not {α : Type} {D : RB → α × RB} {E : α → Bytes} {ok : α → Prop} (h : Codec D E ok) {v : Bytes} (hd : doneR (D ⟨v, false⟩).2 = false) : ∀ a, ok a → v ≠ E a := by
  intro a ha he
  have := h.app a [] ha
  rw [List.append_nil, ← he] at this
  rw [this] at hd
  cases hd
theorem rec_eq {n : Int} (hn : i64b n) {v : Bytes} (hd : doneR (rRowsT ⟨v, false⟩).1 = true) : recOk (.eq ⟨n, (rRowsT ⟨v, false⟩).2⟩) ∧ rop (recR (.eq ⟨n, (rRowsT ⟨v, false⟩).2⟩)) = (keyB 101 n, false, v) := by
  obtain ⟨h1, h2⟩ := codec_done rRowsT_codec (v := v) hd
  simp only at h1 h2
  refine ⟨⟨hn, h2⟩, ?_⟩
  unfold rop recR eqRec equipB
  simp only
  rw [← h1]
theorem noRec_eq {n : Int} {k v : Bytes} (hk : k = keyB 101 n) (hd : doneR (rRowsT ⟨v, false⟩).1 = false) : ∀ R, recOk R → rop (recR R) ≠ (k, false, v) := by
  refine noRec_of hk fun R hR hc => ?_
  cases R with
  | eq e => exact codec_not rRowsT_codec (v := v) hd e.rows hR.2
  | fl f => cases hc
  | px p => cases hc
theorem rec_fl {n : Int} (hn : i64b n) {v : Bytes} (hd : doneR (rFl ⟨v, false⟩ n).2 = true) : recOk (.fl (rFl ⟨v, false⟩ n).1) ∧ rop (recR (.fl (rFl ⟨v, false⟩ n).1)) = (keyB 102 n, false, v) := by
  obtain ⟨h1, h2⟩ := codec_done (rFl_codec n hn) (v := v) hd
  refine ⟨h2.1, ?_⟩
  unfold rop recR flRec
  simp only
  rw [← h1, h2.2]
theorem noRec_fl {n : Int} (hn : i64b n) {k v : Bytes} (hk : k = keyB 102 n) (hd : doneR (rFl ⟨v, false⟩ n).2 = false) : ∀ R, recOk R → rop (recR R) ≠ (k, false, v) := by
  intro R hR he
  obtain ⟨h1, h2, h3⟩ := rop_inj he
  have hc := keyB_letter (c := recC R) (d := 102) (n := recN R) (m := n) (by rw [← h1, hk])
  cases R with
  | eq e => cases hc
  | px p => cases hc
  | fl f =>
    have hid : f.id = n := keyB_inj (c := 102) hR.id hn (show keyB 102 f.id = keyB 102 n by rw [← hk]; exact h1.symm)
    exact codec_not (rFl_codec n hn) (v := v) hd f ⟨hR, hid⟩ h3
theorem rec_px {n : Int} (hn : i64b n) {v : Bytes} (hd : doneR (rPax ⟨v, false⟩ n).2 = true) : recOk (.px (rPax ⟨v, false⟩ n).1) ∧ rop (recR (.px (rPax ⟨v, false⟩ n).1)) = (keyB 112 n, false, v) := by
  obtain ⟨h1, h2⟩ := codec_done (rPax_codec n hn) (v := v) hd
  refine ⟨h2.1, ?_⟩
  unfold rop recR pxRec
  simp only
  rw [← h1, h2.2]
theorem noRec_px {n : Int} (hn : i64b n) {k v : Bytes} (hk : k = keyB 112 n) (hd : doneR (rPax ⟨v, false⟩ n).2 = false) : ∀ R, recOk R → rop (recR R) ≠ (k, false, v) := by
  intro R hR he
  obtain ⟨h1, h2, h3⟩ := rop_inj he
  have hc := keyB_letter (c := recC R) (d := 112) (n := recN R) (m := n) (by rw [← h1, hk])
  cases R with
  | eq e => cases hc
  | fl f => cases hc
  | px p =>
    have hid : p.id = n := keyB_inj (c := 112) hR.1.id hn (show keyB 112 p.id = keyB 112 n by rw [← hk]; exact h1.symm)
    exact codec_not (rPax_codec n hn) (v := v) hd p ⟨hR, hid⟩ h3
end Go.Proofs.YtinkmidjbdnibaaGreatDoor
namespace Go.Eng
open Go
section
variable {P : Program} {T0 : Tbl}
theorem St.appOStr (hT : TOk P T0) {t u e ty : TypeId} {i iu ie : TI} (hi : tf T0 t = some i) (hk : i.k = .slice e 1) (hiu : tf T0 u = some iu) (hku : iu.k = .str) (hie : tf T0 e = some ie)
    (hz : ie.zero.cells.size = 1) {w0 w : World} {T : List Nat} {H L : Heap} {F : Heap → Heap} (hS : St w0 T H w) {a : Option Addr} {n cap : Nat} {xs : List Value} (hv : VecO e a n cap xs L) [hc : Chunk H L F]
    {s : List UInt8}
    (hlen : (n + s.length) * ie.bytes ≤ 140737488355328) (hlen' : n + s.length ≤ 9223372036854775807) {K : Value → World → Prop}
    (h : ∀ a' cap' L' w', VecO e a' (n + s.length) cap' (xs ++ s.map byteV) L' → St w0 T (F L') w' → K (.slice a' (n + s.length) cap') w') :
    RunG P (Builtin.append_ ⟨[t, u]⟩ ty ⟨[.slice a n cap, Str s]⟩) w K := by
  have hu := und_of hT hiu
  rw [hku] at hu
  obtain ⟨m, hmd⟩ : ∃ m, m = s.length := ⟨_, rfl⟩
  obtain ⟨news, hnews⟩ : ∃ l, l = s.map byteV := ⟨_, rfl⟩
  have hm : news.length = m := by rw [hnews, hmd]; simp
  have h1 : news.all Value.oneCell' = true := by rw [hnews]; simp [byteV, Value.oneCell']
  rw [← hmd] at hlen hlen'
  have h : ∀ a' cap' L' w', VecO e a' (n + m) cap' (xs ++ news) L' → St w0 T (F L') w' → K (.slice a' (n + m) cap') w' := by rw [hmd, hnews]; exact h
  have hlo : (Builtin.lenOf (Str s)).run P w = .ok m w := by rw [hmd]; rfl
  obtain ⟨x, hx0⟩ : ∃ x, x = Str s := ⟨_, rfl⟩
  have ht := und_of hT hi
  rw [hk] at ht
  obtain ⟨ht, hes⟩ := ht
  obtain ⟨inf, hinf, hzz, hs1, hby⟩ := info_of hT hie
  have hsz : inf.size = 1 := by rw [hinf] at hes; simpa using hes
  have hpart : Holds L w := hS.part (L := L)
  have hin := St.enter hpart
  have hsrc : ∀ w', w'.heap = w.heap → (Builtin.firstCells 1 m (Str s)).run P w' = .ok ⟨news⟩ w' := fun w' _ => by
    subst hmd hnews
    show Result.ok _ _ = _
    congr 1
    apply Array.ext'
    simp [ByteArray.data_extract]
    intro a _; rfl
  rw [← hx0] at hsrc hlo ⊢
  have step : ∀ o, St w0 T (F [(w.heap.size, o)]) (w.drew.alloc o) := fun o =>
    hS.call (L := L) (((hin.drew).alloc o).sub (List.Sublist.cons_cons _ (List.nil_sublist _)))
  cases hv with
  | nil =>
    subst hx0 hmd hnews
    exact St.appStr hT hi hk hiu hku hie hz hS Vec.nil hlen hlen' fun a' cap' L' w' h2 h3 => h a' cap' L' w' (VecO.of h2) h3
  | row g pre xs l post n cap fz hf hx hl =>
    have hg : w.heap[g]? = some (.cells ⟨pre ++ (xs ++ (l ++ post))⟩ e fz) := hpart.own _ (List.mem_singleton.2 rfl)
    by_cases hroom : n + m ≤ cap
    · have hst := run_storeCells_fz P g (pre.length + n * 1) e fz news 0 ⟨pre ++ (xs ++ (l ++ post))⟩ w hg (by simp only [List.length_append] at hf; omega) (by simp; omega) (fun v hv => List.all_eq_true.1 h1 v hv)
      simp only [Nat.add_zero] at hst
      have e1 : (pre ++ (xs ++ (l ++ post))).take (pre.length + n * 1) = pre ++ xs := by
        rw [← List.append_assoc, show pre.length + n * 1 = (pre ++ xs).length by simp; omega, List.take_left]
      have e2 : (pre ++ (xs ++ (l ++ post))).drop (pre.length + n * 1 + news.length) = l.drop m ++ post := by
        rw [← List.append_assoc, show pre.length + n * 1 + news.length = (pre ++ xs).length + m by simp; omega, List.drop_append, List.drop_eq_nil_of_le (by omega), List.nil_append,
          show (pre ++ xs).length + m - (pre ++ xs).length = m by omega, List.drop_append_of_le_length (by omega)]
      have e3 : pre ++ xs ++ news ++ (l.drop m ++ post) = pre ++ ((xs ++ news) ++ (l.drop m ++ post)) := by simp
      have hv2 := VecO.row (e := e) g pre (xs ++ news) (l.drop m) post (n + m) cap fz (by simp only [List.length_append, List.length_drop] at hf ⊢; omega) (by simp; omega) (by simp; omega)
      refine RunG.of ?_ (h (some ⟨g, pre.length, none⟩) cap _ (w.setRow g ⟨pre ++ ((xs ++ news) ++ (l.drop m ++ post))⟩) hv2 ?_)
      · simp only [e1, e2] at hst
        rw [← e3]
        simp [Builtin.append_, run_underlying ht, run_underlying hu, sizeOf, typeInfo, hinf, hsz, hlo, hroom, hsrc w rfl, Addr.add_eq]
        rw [show pre.length + n = pre.length + n * 1 by omega, hst]
        simp
      · exact hS.call (L := [(g, .cells ⟨pre ++ (xs ++ (l ++ post))⟩ e fz)]) (hin.setRow (b := g) (l := pre ++ (xs ++ (l ++ post))) (l' := pre ++ ((xs ++ news) ++ (l.drop m ++ post))))
    · have hge := grownCap_ge w (n + m) cap e
      have h3 : ¬ (9223372036854775807 < ((n : Int) + (m : Int))) := by omega
      have h4 : ¬ (281474976710656 < Builtin.nextslicecap (n + m) cap * inf.bytes) := by
        have := growslice_fits (need := n + m) (old := cap) (bytes := inf.bytes) (by omega) (by rw [hby]; exact hlen)
        omega
      have h5 := hsrc w.drew rfl
      have hfo := run_firstCells_some (P := P) w.drew 1 n ⟨g, pre.length, none⟩ n cap xs (by omega) (fun j v hj => by
        rw [Addr.add_eq]
        have hlt : j < xs.length := (List.getElem?_eq_some_iff.1 hj).1
        have hg' : w.drew.heap[g]? = some (.cells ⟨pre ++ (xs ++ (l ++ post))⟩ e fz) := hg
        simp only [World.cell?, hg', Option.isSome_none, Bool.false_eq_true, if_false]
        rw [show (Array.mk (pre ++ (xs ++ (l ++ post))))[pre.length + j]? = (pre ++ (xs ++ (l ++ post)))[pre.length + j]? by simp, List.getElem?_append_right (by omega), show pre.length + j - pre.length = j by omega, List.getElem?_append_left hlt]
        exact hj)
      have hV := VecO.row (e := e) w.heap.size [] (xs ++ news) (Builtin.zeroCells ie.zero.cells (grownCap w (n + m) cap e - (n + m))).toList [] (n + m) (grownCap w (n + m) cap e) (0, 0) (.inl (Nat.zero_le _)) (by simp; omega) (by rw [zeroCells_len, hz]; simp; omega)
      refine RunG.of ?_ (h _ _ _ _ hV (step _))
      simp [Builtin.append_, run_underlying ht, run_underlying hu, sizeOf, typeInfo, zeroValue, hinf, hzz, hsz, hlo, hroom, h3, h4, Question.forced, hfo, h5, newRow, grownCap]
      congr 2
      apply Array.ext'
      simp
end
theorem St.toBytesV {P : Program} {T0 : Tbl} (hT : TOk P T0) {t u e : TypeId} {i iu ie : TI} (hi : tf T0 t = some i) (hk : i.k = .slice e 1) (hiu : tf T0 u = some iu) (hku : iu.k = .str) (hie : tf T0 e = some ie) (hke : ie.k = .int .u8)
    {w0 w : World} {T : List Nat} {H : Heap} (hS : St w0 T H w) {s : List UInt8} {K : Value → World → Prop}
    (h : ∀ a c L w', VecO e a s.length c (s.map byteV) L → St w0 T (L ++ H) w' → K (.slice a s.length c) w') : RunG P (convert u t (Str s)) w K := by
  have h1 := und_of hT hiu; rw [hku] at h1
  have h2 := und_of hT hi; rw [hk] at h2
  have h3 := und_of hT hie; rw [hke] at h3
  have hge := grownCap_ge w s.length 0 e
  have e1 : bytesRow ⟨⟨s⟩⟩ (grownCap w s.length 0 e) = ⟨[] ++ (s.map byteV ++ (List.replicate (grownCap w s.length 0 e - s.length) (.int .u8 0) ++ []))⟩ := by
    apply Array.ext'
    simp [bytesRow]; rfl
  have hrun : (convert u t (Str s)).run P w = .ok (.slice (some ⟨w.heap.size, 0, none⟩) s.length (grownCap w s.length 0 e))
      (w.drew.alloc (.cells (bytesRow ⟨⟨s⟩⟩ (grownCap w s.length 0 e)) e ((bytesRow ⟨⟨s⟩⟩ (grownCap w s.length 0 e)).size, (bytesRow ⟨⟨s⟩⟩ (grownCap w s.length 0 e)).size + 1))) := run_bytes_of_string w u t e ⟨⟨s⟩⟩ h1 h2.1 h3
  have hv := VecO.row (e := e) w.drew.heap.size [] (s.map byteV) (List.replicate (grownCap w s.length 0 e - s.length) (.int .u8 0)) [] s.length (grownCap w s.length 0 e) ((bytesRow ⟨⟨s⟩⟩ (grownCap w s.length 0 e)).size, (bytesRow ⟨⟨s⟩⟩ (grownCap w s.length 0 e)).size + 1)
    (.inr (by rw [e1]; simp)) (by simp) (by simp; omega)
  refine RunG.of hrun (h _ _ _ _ hv ?_)
  have := hS.drew.alloc (.cells (bytesRow ⟨⟨s⟩⟩ (grownCap w s.length 0 e)) e ((bytesRow ⟨⟨s⟩⟩ (grownCap w s.length 0 e)).size, (bytesRow ⟨⟨s⟩⟩ (grownCap w s.length 0 e)).size + 1))
  rw [← e1]
  exact this
end Go.Eng
namespace Go.Proofs.YtinkmidjbdnibaaGreatDoor
open Go Go.Eng Go.Proofs
def be8to (n k : Nat) : Bytes := List.replicate (8 - k) 0 ++ (be8 n).drop (8 - k)
theorem be8to_set (n k : Nat) (hk : k < 8) : ((be8to n k).map byteV).set (7 - k) (byteV (UInt8.ofNat (n / 256 ^ k))) = (be8to n (k + 1)).map byteV := by
  match k, hk with
  | 0, _ => simp [be8to, be8]
  | 1, _ => simp [be8to, be8]
  | 2, _ => simp [be8to, be8]
  | 3, _ => simp [be8to, be8]
  | 4, _ => simp [be8to, be8]
  | 5, _ => simp [be8to, be8]
  | 6, _ => simp [be8to, be8]
  | 7, _ => simp [be8to, be8]
theorem be8to_len (n k : Nat) (hk : k ≤ 8) : (be8to n k).length = 8 := by
  unfold be8to be8
  rw [List.length_append, List.length_replicate, List.length_drop]
  show 8 - k + (8 - (8 - k)) = 8
  omega
end Go.Proofs.YtinkmidjbdnibaaGreatDoor
namespace Go.Eng
open Go
section
variable {P : Program} {ops : Array Oper} {Q : Exit → Act → World → Prop} {md : Region.Mode} {S : Nat → World → World → Prop}
def wpAnyR (P : Program) (md : Region.Mode) (ops : Array Oper) (Q : Exit → Act → World → Prop) (S : Nat → World → World → Prop) : Nat → Array Bool → Act → World → Prop
  | 0, listed, a, w => Region.ready md ops listed = [] ∧ Q .normal a w
  | fuel + 1, listed, a, w =>
    (Region.ready md ops listed = [] → Q .normal a w) ∧
    ∀ i ∈ Region.ready md ops listed, wpOp P ops Q i (fun a' w' => S i w w' ∧ wpAnyR P md ops Q S fuel (listed.setIfInBounds i true) a' w') a w
theorem wpAny_of_R : ∀ (fuel : Nat) (listed : Array Bool) (a : Act) (w : World), wpAnyR P md ops Q S fuel listed a w → wpAny P md ops Q fuel listed a w
  | 0, _, _, _, h => h
  | fuel + 1, _, _, _, h => ⟨h.1, fun i hi => wpOp_mono (fun a' w' h' => wpAny_of_R fuel _ a' w' h'.2) (h.2 i hi)⟩
theorem wpAnyR_first {C : World → Prop} {n i : Nat} {oi : Oper} {v : Value} (hi : ops[i]? = some oi) (hsel : ∀ (j : Nat) (o : Oper) cs b, ops[j]? = some o → o.op ≠ .select cs b)
    (hQ : ∀ c a w, Q (.panic c) (a.put oi.dst v) w → Q (.panic c) a w) (hSi : ∀ w, S i w w) :
    ∀ (fuel : Nat) (listed : Array Bool) (a : Act) (w : World), Closed ops listed →
      (∀ j oj, ops[j]? = some oj → j ≠ i → listed.getD j true = false → dep ops n j i = false → oi.apart ops oj = true ∧ ∀ w1 w2, C w1 → S j w1 w2 → C w2) →
      i ∈ Region.ready .any ops listed → YieldsIf P ops C oi v a → C w →
      wpAnyR P .any ops Q S fuel (listed.setIfInBounds i true) (a.put oi.dst v) w → wpAnyR P .any ops Q S (fuel + 1) listed a w := by
  intro fuel
  induction fuel with
  | zero =>
    intro listed a w _ _ hr hy hS H
    refine ⟨fun h => (by rw [h] at hr; cases hr), fun j hj => ?_⟩
    by_cases hji : j = i
    · subst hji; exact hy.wpOp hi hS ⟨hSi _, H⟩
    · have := ready_mono hj hji
      rw [H.1] at this
      cases this
  | succ fuel ih =>
    intro listed a w hcl hfree hr hy hS H
    refine ⟨fun h => (by rw [h] at hr; cases hr), fun j hj => ?_⟩
    by_cases hji : j = i
    · subst hji; exact hy.wpOp hi hS ⟨hSi _, H⟩
    · have h1 := H.2 j (ready_mono hj hji)
      obtain ⟨hjun, oj, hoj, hall⟩ := mem_ready.1 hj
      have hnot := ready_not_dep (n := n) hcl (mem_ready.1 hr).1 hj
      obtain ⟨hap, hkeep⟩ := hfree j oj hoj hji hjun hnot
      have h2 := wpOp_putIf hoj hap (fun cs b => hsel i oi cs b hi) (fun cs b => hsel j oj cs b hoj) hQ hy h1
      have hfree' : ∀ k ok, ops[k]? = some ok → k ≠ i → (listed.setIfInBounds j true).getD k true = false →
          dep ops n k i = false → oi.apart ops ok = true ∧ ∀ w1 w2, C w1 → S k w1 w2 → C w2 := fun k ok hk hki hun hno => by
        refine hfree k ok hk hki ?_ hno
        by_cases hjk : j = k
        · subst hjk; exact hjun
        · rw [getD_set_ne true hjk] at hun; exact hun
      refine wpOp_mono (fun a' w' h3 => ⟨h3.2.1, ih (listed.setIfInBounds j true) a' w' (hcl.set hj) hfree' (ready_mono hr (Ne.symm hji)) h3.1 (hkeep _ _ hS h3.2.1) ?_⟩) h2
      rw [Array.setIfInBounds_comm _ _ hji]
      exact h3.2.2
end
abbrev Grew (w w' : World) : Prop := St w [] [] w'
theorem Grew.refl (w : World) : Grew w w := St.start w
theorem Grew.trans {w w1 w2 : World} (h : Grew w w1) (h' : Grew w1 w2) : Grew w w2 := St.call0 h h'
def grewS (fin : List Nat) (i : Nat) (w w' : World) : Prop := i ∈ fin ∨ Grew w w'
theorem St.alG {w0 w : World} {T : List Nat} {H : Heap} (hS : St w0 T H w) {o : Obj} {K : Nat → World → Prop} (h : ∀ b w', Grew w w' → St w0 T ((b, o) :: H) w' → K b w') : AllG w o K :=
  ⟨h _ _ ((St.start w).alloc o).nil (hS.alloc o)⟩
theorem St.ldG {w0 w : World} {T : List Nat} {H : Heap} {b off : Nat} {l : List Value} {t : TypeId} {fz : Nat × Nat} {F : Obj → Heap} (hS : St w0 T H w) [Slot H b (.cells ⟨l⟩ t fz) F] {v : Value} (hv : l[off]? = some v)
    {K : Value → Prop} (hk : K v) : LdC (Grew w) ⟨b, off, none⟩ K :=
  ⟨⟨v, fun _ h => h.oldCell (by simp) (hS.cell hv), hk⟩⟩
theorem St.ldnG {w0 w : World} {T : List Nat} {H : Heap} {n b off : Nat} {l : List Value} {t : TypeId} {fz : Nat × Nat} {F : Obj → Heap} (hS : St w0 T H w) [Slot H b (.cells ⟨l⟩ t fz) F] (hn : Nat.ble (off + n) l.length = true)
    {K : List Value → Prop} (hk : forceL ((l.drop off).take n) K) : LdN (Grew w) n b off K := by
  have hle := Nat.le_of_ble_eq_true hn
  refine ⟨⟨_, by simp; omega, fun _ h j v hv => ?_, (forceL_iff _ _).1 hk⟩⟩
  refine h.oldCell (by simp) (hS.cell ?_)
  rw [List.getElem?_take] at hv
  split at hv
  · rw [List.getElem?_drop] at hv; exact hv
  · cases hv
def takeOK (ops : Array Oper) (kd : Op → OpKind) (fin : List Nat) (listed : Array Bool) (i : Nat) : Bool := match ops[i]? with
  | none => false
  | some o => (match kd o.op with | .eff => false | _ => true) && (Region.ready .any ops listed).contains i && free' ops listed i && !fin.elem i && finWait ops listed fin i
structure DrawG (P : Program) (T : Tbl) (N : Nat) (all : List Oper) (fin : List Nat) (Q : Exit → Env → World → Prop) (n : Nat) (listed : Array Bool) (e : Env) (w : World) : Prop where
  out : ∀ a, Closed ⟨all⟩ listed → Rel N e a → wpAnyR P .any ⟨all⟩ (lift N Q) (grewS fin) n listed a w
def vcT (P : Program) (T : Tbl) (N : Nat) (all : List Oper) (fin : List Nat) (Q : Exit → Env → World → Prop) (n : Nat) : List Nat → Array Bool → Env → World → Prop
  | [], listed, e, w => DrawG P T N all fin Q n listed e w
  | i :: r, listed, e, w => atK all i fun o => grdG all o.guard e
    (fun e => match kind T o.op with
      | .pure => pureG P T e o.op fun v => putE N o.dst v e fun e' => vcT P T N all fin Q n r (listed.setIfInBounds i true) e' w
      | .read => readG P T e (Grew w) o fun v => putE N o.dst v e fun e' => vcT P T N all fin Q n r (listed.setIfInBounds i true) e' w
      | .eff => False)
    (fun e => putE N o.dst undef e fun e' => vcT P T N all fin Q n r (listed.setIfInBounds i true) e' w)
def takesOK (ops : Array Oper) (kd : Op → OpKind) (fin : List Nat) : List Nat → Array Bool → Bool
  | [], _ => true
  | i :: r, listed => takeOK ops kd fin listed i && takesOK ops kd fin r (listed.setIfInBounds i true)
section
variable {P : Program} {T : Tbl} (hT : TOk P T) {N : Nat} {all : List Oper} {fin : List Nat} {Q : Exit → Env → World → Prop}
include hT
theorem DrawG.takes (hsel : Region.noSelect ⟨all⟩ = true) (n : Nat) : ∀ (is : List Nat) {listed : Array Bool} {e : Env} {w : World} (_h : takesOK ⟨all⟩ (kind T) fin is listed = true) (_g : vcT P T N all fin Q n is listed e w), DrawG P T N all fin Q (n + is.length) listed e w
  | [], _, _, _, _, g => g
  | i :: r, listed, e, w, h, g => by
    refine ⟨fun a hcl hr => ?_⟩
    simp only [takesOK, Bool.and_eq_true] at h
    obtain ⟨h1, h2⟩ := h
    obtain ⟨o, ho, g⟩ := atK_iff g
    have ho' : (Array.mk all)[i]? = some o := by simpa using ho
    unfold takeOK at h1
    simp only [ho', Bool.and_eq_true] at h1
    obtain ⟨⟨⟨⟨hk, hrd⟩, hf⟩, hnf⟩, hw⟩ := h1
    have hready : i ∈ Region.ready .any ⟨all⟩ listed := by simpa using hrd
    have key : ∀ (v : Value) (e' : Env), YieldsIf P ⟨all⟩ (Grew w) o v a → Rel N e' (a.put o.dst v) → vcT P T N all fin Q n r (listed.setIfInBounds i true) e' w →
        wpAnyR P .any ⟨all⟩ (lift N Q) (grewS fin) (n + (i :: r).length) listed a w := by
      intro v e' hy hr' hv
      rw [List.length_cons, ← Nat.add_assoc]
      refine wpAnyR_first (C := Grew w) (n := all.length) ho' (Region.noSelect_spec hsel) (fun c a w h => h.elim) (fun w => .inr (Grew.refl w)) (n + r.length) listed a w hcl ?_ hready hy (Grew.refl w) ?_
      · intro j oj hj hne hun hd
        have hjlt : j < all.length := by have := (Array.getElem?_eq_some_iff.1 hj).1; simpa using this
        simp only [free', ho', List.all_eq_true, List.mem_range] at hf
        have h1 := hf j (by simpa using hjlt)
        have hd' : dep ⟨all⟩ (Array.mk all).size j i = false := hd
        simp only [hj, Bool.or_eq_true, beq_iff_eq, hne, false_or, hun, hd', Bool.false_eq_true] at h1
        refine ⟨h1, fun w1 w2 hw1 hw2 => ?_⟩
        rcases hw2 with hw2 | hw2
        · simp only [finWait, List.all_eq_true] at hw
          have h3 := hw j hw2
          simp only [Bool.or_eq_true, beq_iff_eq, hne, false_or, hun, hd', Bool.false_eq_true] at h3
        · exact hw1.trans hw2
      · exact (DrawG.takes hsel n r h2 hv).out _ (hcl.set hready) hr'
    rcases grdG_iff hr g with ⟨e1, h1, h2, h3⟩ | ⟨e1, h1, h2, h3⟩
    · cases hk' : kind T o.op <;> simp only [hk'] at h3 hk
      case pure =>
        obtain ⟨v, h4, h5⟩ := pureG_sound hT h1 h3
        obtain ⟨e', h6, h7⟩ := putE_iff h4 h1
        exact key v e' (.inl ⟨h2, fun w _ => h5 w⟩) h6 h7
      case read =>
        obtain ⟨v, h4, h5⟩ := readG_sound hT h1 h3
        obtain ⟨e', h6, h7⟩ := putE_iff h4 h1
        exact key v e' (.inl ⟨h2, fun w hw => h5 w hw⟩) h6 h7
    · obtain ⟨e', h6, h7⟩ := putE_iff h3 h1
      exact key undef e' (.inr ⟨h2, rfl⟩) h6 h7
theorem DrawG.alt {n : Nat} {listed : Array Bool} {e : Env} {w : World} (j : Nat) (js : List Nat) (h : Region.ready .any ⟨all⟩ listed = j :: js)
    (g : allP (j :: js) fun i => atK all i fun o => grdG all o.guard e
      (fun e => match kind T o.op with
        | .pure => pureG P T e o.op fun v => putE N o.dst v e fun e' => DrawG P T N all fin Q n (listed.setIfInBounds i true) e' w
        | .read => readG P T e (fun w' => w = w') o fun v => putE N o.dst v e fun e' => DrawG P T N all fin Q n (listed.setIfInBounds i true) e' w
        | .eff => effG P T e o w fun v w' => (match fin.elem i with
          | true => putE N o.dst v e fun e' => DrawG P T N all fin Q n (listed.setIfInBounds i true) e' w'
          | false => Chk (Grew w w') (putE N o.dst v e fun e' => DrawG P T N all fin Q n (listed.setIfInBounds i true) e' w')))
      (fun e => putE N o.dst undef e fun e' => DrawG P T N all fin Q n (listed.setIfInBounds i true) e' w)) : DrawG P T N all fin Q (n + 1) listed e w := by
  refine ⟨fun a hcl hr => ⟨fun h0 => (by rw [h] at h0; cases h0), fun i hi => ?_⟩⟩
  have hcl' := hcl.set hi
  rw [h] at hi
  obtain ⟨o, ho, g⟩ := atK_iff (allP_mem g i hi)
  have ho' : (Array.mk all)[i]? = some o := by simpa using ho
  rcases grdG_iff hr g with ⟨e1, h1, h2, h3⟩ | ⟨e1, h1, h2, h3⟩
  · unfold wpOp
    simp only [ho', h2, if_true]
    refine .inl ?_
    cases hk : kind T o.op <;> simp only [hk] at h3
    case pure =>
      obtain ⟨v, h4, h5⟩ := pureG_sound hT h1 h3
      obtain ⟨e', h6, h7⟩ := putE_iff h4 h1
      exact Oper.wp_value (h5 w) ⟨.inr (Grew.refl w), h7.out _ hcl' h6⟩
    case read =>
      obtain ⟨v, h4, h5⟩ := readG_sound hT h1 h3
      obtain ⟨e', h6, h7⟩ := putE_iff h4 h1
      exact Oper.wp_value (h5 w rfl) ⟨.inr (Grew.refl w), h7.out _ hcl' h6⟩
    case eff =>
      refine effG_sound hT h1 h3 fun v w' hk' => ?_
      cases hf : fin.elem i <;> rw [hf] at hk'
      · obtain ⟨e', h6, h7⟩ := putE_iff hk'.q h1
        exact ⟨.inr hk'.p, h7.out _ hcl' h6⟩
      · obtain ⟨e', h6, h7⟩ := putE_iff hk' h1
        exact ⟨.inl (by simpa using hf), h7.out _ hcl' h6⟩
  · obtain ⟨e', h6, h7⟩ := putE_iff h3 h1
    unfold wpOp
    simp only [ho', h2, Bool.false_eq_true, if_false]
    exact ⟨.inr (Grew.refl w), h7.out _ hcl' h6⟩
omit hT in
theorem DrawG.done {n : Nat} {listed : Array Bool} {e : Env} {w : World} (h : Region.ready .any ⟨all⟩ listed = []) (hk : Q .normal e w) : DrawG P T N all fin Q n listed e w := by
  refine ⟨fun a _ hr => ?_⟩
  cases n with
  | zero => exact ⟨h, e, hr, hk⟩
  | succ n => exact ⟨fun _ => ⟨e, hr, hk⟩, fun i hi => by rw [h] at hi; cases hi⟩
end
theorem SemW.drawR {P : Program} {T : Tbl} (_hT : TOk P T) {N : Nat} {all : List Oper} {Q : Exit → Env → World → Prop} {id : Nat} {e : Env} {w : World} (hm : P.follows .mixedOrders = true) (fin : List Nat) (h : DrawG P T N all fin Q all.length (Array.replicate (Array.mk all).size false) e w.drew) : StopW P N (.region id ⟨all⟩ true) Q e w :=
  ⟨fun a hr => wp_region_any hm (wpAny_of_R _ _ _ _ (h.out a (by
    intro j oj _ hl
    simp only [Array.getD_eq_getD_getElem?, Array.getElem?_replicate] at hl
    split at hl <;> simp at hl) hr))⟩
end Go.Eng
namespace Go.Proofs.YtinkmidjbdnibaaGreatDoor
open Go Go.Eng Go.Proofs
def partZ : List Value := [.int .i64 0, .int .i64 0, Str []]
theorem be_step (u : Nat) (x : UInt8) (hu : u < 72057594037927936) : orI .u64 (IntKind.u64.wrap ((u : Int) * 2 ^ min (Int.toNat 8) IntKind.u64.bits)) (IntKind.u64.wrap ((x.toNat : Nat) : Int)) = ((256 * u + x.toNat : Nat) : Int) := by
  have hx := x.toNat_lt
  have e1 : (u : Int) * 2 ^ min (Int.toNat 8) IntKind.u64.bits = ((u * 2 ^ 8 : Nat) : Int) := by
    show (u : Int) * 2 ^ 8 = _
    simp
  rw [e1, wrapU .u64 rfl, wrapU .u64 rfl, show u * 2 ^ 8 % 2 ^ IntKind.u64.bits = u * 2 ^ 8 from Nat.mod_eq_of_lt (show u * 2 ^ 8 < 18446744073709551616 by omega), show x.toNat % 2 ^ IntKind.u64.bits = x.toNat from Nat.mod_eq_of_lt (show x.toNat < 18446744073709551616 by omega), orU .u64 rfl _ _ (show u * 2 ^ 8 < 18446744073709551616 by omega) (show x.toNat < 18446744073709551616 by omega), or_add _ _ _ (by omega)]
  congr 1
  omega
theorem top_int (u : Nat) (hu : u < 18446744073709551616) : IntKind.i64.wrap (xorI .u64 (u : Int) 9223372036854775808) = (u : Int) - 9223372036854775808 := by
  have hx := xorU .u64 rfl u 9223372036854775808 hu (by decide)
  rw [show ((9223372036854775808 : Nat) : Int) = 9223372036854775808 from rfl] at hx
  rw [hx, xor_top u hu]
  unfold IntKind.wrap
  simp only [IntKind.signed, IntKind.bits]
  split <;> simp <;> omega
set_option maxHeartbeats 2000000 in
theorem onumber_spec {w : World} {r : Bytes} (hr : r.length ≤ 70368744177664) :
    Cl Tryz.prog f_order_number [Str r] w fun v w' => (v = if 8 ≤ r.length then .tuple ⟨[.agg ⟨partC (.num (unb (r.take 8)))⟩, Str (r.drop 8), .bool true]⟩ else .tuple ⟨[.agg ⟨partZ⟩, Str [], .bool false]⟩) ∧ St w [] [] w' := by
  have hS := St.start w
  refine en_order_number rfl ?_
  refine jq ⟨?_⟩
  refine hS.al ?_
  intro b2 w1 _ hS
  by_cases h8 : 8 ≤ r.length
  rotate_left
  · rw [if_neg h8]
    (repeat (refine jt ⟨?_⟩; refine hS.st rfl rfl ?_; intro _ hS)); refine jt ⟨?_⟩
    exact ⟨rfl, hS.nil⟩
  rw [if_pos h8]
  (repeat (refine jt ⟨?_⟩; refine hS.st rfl rfl ?_; intro _ hS)); refine jt ⟨?_⟩
  refine SemW.loop (fun j : Nat => [(0, Str r), (2, ptr b2), (3, Str []), (4, .bool false), (5, .int .u64 (beV (r.take j) : Nat)), (11, .int .i64 j)])
    (fun j w' => (j ≤ 8 ∧ beV (r.take j) < 256 ^ j) ∧ St w [] [(b2, .cells ⟨partZ⟩ T_api_Part (0, 0))] w') (fun j => 8 - j) 0
    ⟨rfl, rfl, rfl, rfl, rfl, rfl, trivial⟩ ⟨⟨Nat.zero_le _, by rw [List.take_zero]; decide⟩, hS⟩ ?_
  clear hS
  rintro j w2 ⟨⟨hj, hb⟩, hS⟩
  by_cases hj8 : j < 8
  · have hjr : j < r.length := by omega
    have hsn := beV_snoc (r.take j) r[j]
    rw [← List.take_succ_eq_append_getElem hjr] at hsn
    have hgd : r.getD ((j : Int)).toNat 0 = r[j] := by simp [List.getD, List.getElem?_eq_getElem hjr]
    have hx := (r[j]).toNat_lt
    have hlt : beV (r.take j) < 72057594037927936 := Nat.lt_of_lt_of_le hb (Nat.pow_le_pow_right (n := 256) (by omega) (by omega : j ≤ 7))
    have hb2 : beV (r.take (j + 1)) < 256 ^ (j + 1) := by rw [Nat.pow_succ]; omega
    (repeat (refine jt ⟨?_⟩; refine hS.st rfl rfl ?_; intro _ hS)); refine jt ⟨?_⟩
    rw [hgd, be_step _ _ hlt, ← hsn]
    (repeat (refine jt ⟨?_⟩; refine hS.st rfl rfl ?_; intro _ hS)); refine jt ⟨?_⟩
    exact ⟨j + 1, ⟨rfl, rfl, rfl, rfl, rfl, rfl, trivial⟩, ⟨⟨by omega, hb2⟩, hS⟩, by omega⟩
  · have hj8 : j = 8 := by omega
    subst hj8
    have hub := unum_unb (l := r.take 8) (by rw [List.length_take]; omega)
    have hbl : beV (r.take 8) < 18446744073709551616 := hb
    (repeat (refine jt ⟨?_⟩; refine hS.st rfl rfl ?_; intro _ hS)); refine jt ⟨?_⟩
    refine SemW.draw tblOk mixed (fun w' => St w [] [] w') [] [0, 1, 2, 3, 4, 5, 6, 7, 8] (by kernel_rfl) hS.drew.nil ?_
    have hF := hS.drew
    have hS := hF.nil
    refine IntG.mk ?_
    rw [top_int _ hbl]
    refine jr ⟨?_⟩
    refine hF.st rfl rfl ?_
    intro _ hS
    refine Chk.mk hS.nil ?_
    refine jr ⟨?_⟩
    (repeat (refine jt ⟨?_⟩; refine hS.st rfl rfl ?_; intro _ hS)); refine jt ⟨?_⟩
    exact ⟨rfl, hS.nil⟩
structure TXI where
  i : Nat
  out : Bytes
  a : Option Addr
  c : Nat
set_option maxHeartbeats 4000000 in
theorem otext_spec {w : World} {r : Bytes} (hr : r.length ≤ 70368744177664) :
    Cl Tryz.prog f_order_text [Str r] w fun v w' => (v = match txtM r with
      | some (s, z) => .tuple ⟨[.agg ⟨partC (.text s)⟩, Str z, .bool true]⟩
      | none => .tuple ⟨[.agg ⟨partZ⟩, Str [], .bool false]⟩) ∧ St w [] [] w' := by
  have hS := St.start w
  refine en_order_text rfl ?_
  refine jq ⟨?_⟩
  refine hS.al ?_
  intro b2 w1 _ hS
  (repeat (refine jt ⟨?_⟩; refine hS.st rfl rfl ?_; intro _ hS)); refine jt ⟨?_⟩
  refine SemW.loop (fun x : TXI => [(0, Str r), (2, ptr b2), (3, Str []), (4, .bool false), (5, .slice x.a x.out.length x.c), (6, .int .i64 x.i)])
    (fun x w' => (x.i ≤ r.length ∧ x.out.length ≤ x.i ∧ txtM r = (txtM (r.drop x.i)).map fun z => (x.out ++ z.1, z.2)) ∧ ∃ L, Vec T_uint8 1 x.a x.out.length x.c (x.out.map byteV) L ∧ St w [] (L ++ [(b2, .cells ⟨partZ⟩ T_api_Part (0, 0))]) w') (fun x => r.length - x.i) ⟨0, [], none, 0⟩
    ⟨rfl, rfl, rfl, rfl, rfl, rfl, trivial⟩ ⟨⟨Nat.zero_le _, Nat.le_refl _, by rw [List.drop_zero]; cases txtM r <;> rfl⟩, [], Vec.nil, hS⟩ ?_
  clear hS
  rintro ⟨i, out, a, c⟩ w2 ⟨⟨hi, hol, hx⟩, L, hv, hS⟩
  simp only at hi hol hx hv hS ⊢
  by_cases hil : i + 1 < r.length
  · have e1 := List.drop_eq_getElem_cons (show i < r.length by omega)
    have e2 := List.drop_eq_getElem_cons hil
    have hg1 : r.getD ((i : Int)).toNat 0 = r[i] := by simp [List.getD, List.getElem?_eq_getElem (show i < r.length by omega)]
    have hg2 : r.getD ((i : Int) + 1).toNat 0 = r[i + 1] := by
      rw [show ((i : Int) + 1).toNat = i + 1 by omega]
      simp [List.getD, List.getElem?_eq_getElem hil]
    generalize r[i] = ch at e1 hg1
    generalize r[i + 1] = dh at e2 hg2
    have hcb := ch.toNat_lt
    have hdb := dh.toNat_lt
    (repeat (refine jt ⟨?_⟩; refine hS.st rfl rfl ?_; intro _ hS)); refine jt ⟨?_⟩
    rw [hg1]
    by_cases hc : ch = 0
    · subst hc
      have hz : ((UInt8.toNat 0 : Nat) : Int) = 0 := rfl
      (repeat (refine jt ⟨?_⟩; refine hS.st rfl rfl ?_; intro _ hS)); refine jt ⟨?_⟩
      rw [hg2]
      by_cases hd : dh = 255
      · subst hd
        have hz2 : ((UInt8.toNat 255 : Nat) : Int) = 255 := rfl
        have hstep : txtM (r.drop i) = (txtM (r.drop (i + 1 + 1))).map fun z => (0 :: z.1, z.2) := by rw [e1, e2, txtM, if_neg (by simp), if_pos rfl]
        (repeat (refine jt ⟨?_⟩; refine hS.st rfl rfl ?_; intro _ hS)); refine jt ⟨?_⟩
        refine hS.al ?_
        intro q w4 _ hS
        (repeat (refine jt ⟨?_⟩; refine hS.st rfl rfl ?_; intro _ hS)); refine jt ⟨?_⟩
        refine St.app (sz := 1) (m := 1) tblOk rfl rfl rfl rfl hS hv (news := [byteV (0 : UInt8)]) rfl (by have := hS.arr (b := q) (T' := []) (by simp); exact this) rfl (by show (_ + _) * 1 ≤ _; omega) (by omega) ?_
        intro a2 c2 L2 w9 hv hS
        have e9 : out.map byteV ++ [byteV (0 : UInt8)] = (out ++ [(0 : UInt8)]).map byteV := by simp
        have e8 : out.length + 1 = (out ++ [(0 : UInt8)]).length := by simp
        rw [e9, e8] at hv
        rw [e8]
        (repeat (refine jt ⟨?_⟩; refine hS.st rfl rfl ?_; intro _ hS)); refine jt ⟨?_⟩
        refine ⟨⟨i + 1 + 1, out ++ [0], a2, c2⟩, ⟨rfl, rfl, rfl, rfl, rfl, rfl, trivial⟩, ⟨⟨by simp only; omega, by simp only [List.length_append, List.length_singleton]; omega, ?_⟩, L2, hv, hS.sub (List.sublist_cons_self _ _)⟩, by simp only; omega⟩
        simp only
        rw [hx, hstep]
        cases txtM (r.drop (i + 1 + 1)) <;> simp
      · have hdn : ¬ ((dh.toNat : Nat) : Int) = 255 := fun h => hd (UInt8.toNat_inj.1 (by show _ = 255; omega))
        (repeat (refine jt ⟨?_⟩; refine hS.st rfl rfl ?_; intro _ hS)); refine jt ⟨?_⟩
        rw [hg2]
        by_cases hd0 : dh = 0
        · subst hd0
          have hz2 : ((UInt8.toNat 0 : Nat) : Int) = 0 := rfl
          have hres : txtM r = some (out, r.drop (i + 1 + 1)) := by
            rw [hx, e1, e2, txtM, if_neg (by simp), if_neg (by decide), if_pos rfl]
            simp
          rw [hres]
          have hdr : (r.drop (((i : Int) + 2)).toNat) = r.drop (i + 1 + 1) := by rw [show ((i : Int) + 2).toNat = i + 1 + 1 by omega]
          (repeat (refine jt ⟨?_⟩; refine hS.st rfl rfl ?_; intro _ hS)); refine jt ⟨?_⟩
          refine SemW.draw tblOk mixed (fun w' => St w [] L w') [] [0, 1, 2, 3, 4, 5, 6, 7, 8, 9] (by kernel_rfl) (hS.drew.sub (List.sublist_append_left _ _)) ?_
          have hF := hS.drew
          have hS := hF.sub (List.sublist_append_left L _)
          refine jr ⟨?_⟩
          refine toStr (T := []) tblOk rfl rfl rfl rfl rfl rfl (bs := out) rfl (fun w' hw' => hv.arr (L := L) hw' (by simp)) ?_
          refine jr ⟨?_⟩
          refine hF.st rfl rfl ?_
          intro _ hF
          refine Chk.mk (hF.sub (List.sublist_append_left L _)) ?_
          refine jr ⟨?_⟩
          have hS := hF
          (repeat (refine jt ⟨?_⟩; refine hS.st rfl rfl ?_; intro _ hS)); refine jt ⟨?_⟩
          rw [hdr]
          exact ⟨rfl, hS.nil⟩
        · have hdn0 : ¬ ((dh.toNat : Nat) : Int) = 0 := fun h => hd0 (UInt8.toNat_inj.1 (by show _ = 0; omega))
          have hres : txtM r = none := by
            rw [hx, e1, e2, txtM, if_neg (by simp), if_neg hd, if_neg hd0]
            rfl
          rw [hres]
          (repeat (refine jt ⟨?_⟩; refine hS.st rfl rfl ?_; intro _ hS)); refine jt ⟨?_⟩
          exact ⟨rfl, hS.nil⟩
    · have hcn : ¬ ((ch.toNat : Nat) : Int) = 0 := fun h => hc (UInt8.toNat_inj.1 (by show _ = 0; omega))
      have hstep : txtM (r.drop i) = (txtM (r.drop (i + 1))).map fun z => (ch :: z.1, z.2) := by rw [e1, e2, txtM, if_pos hc]
      (repeat (refine jt ⟨?_⟩; refine hS.st rfl rfl ?_; intro _ hS)); refine jt ⟨?_⟩
      refine hS.al ?_
      intro q w4 _ hS
      (repeat (refine jt ⟨?_⟩; refine hS.st rfl rfl ?_; intro _ hS)); refine jt ⟨?_⟩
      refine St.app (sz := 1) (m := 1) tblOk rfl rfl rfl rfl hS hv (news := [byteV ch]) rfl (by have := hS.arr (b := q) (T' := []) (by simp); exact this) rfl (by show (_ + _) * 1 ≤ _; omega) (by omega) ?_
      intro a2 c2 L2 w9 hv hS
      have e9 : out.map byteV ++ [byteV ch] = (out ++ [ch]).map byteV := by simp
      have e8 : out.length + 1 = (out ++ [ch]).length := by simp
      rw [e9, e8] at hv
      rw [e8]
      (repeat (refine jt ⟨?_⟩; refine hS.st rfl rfl ?_; intro _ hS)); refine jt ⟨?_⟩
      refine ⟨⟨i + 1, out ++ [ch], a2, c2⟩, ⟨rfl, rfl, rfl, rfl, rfl, rfl, trivial⟩, ⟨⟨by simp only; omega, by simp only [List.length_append, List.length_singleton]; omega, ?_⟩, L2, hv, hS.sub (List.sublist_cons_self _ _)⟩, by simp only; omega⟩
      simp only
      rw [hx, hstep]
      cases txtM (r.drop (i + 1)) <;> simp
  · have hres : txtM r = none := by
      rw [hx]
      have hl : (r.drop i).length ≤ 1 := by rw [List.length_drop]; omega
      cases e : r.drop i with
      | nil => rfl
      | cons x y =>
        rw [e] at hl
        cases y with
        | nil => rfl
        | cons z y => simp at hl
    rw [hres]
    (repeat (refine jt ⟨?_⟩; refine hS.st rfl rfl ?_; intro _ hS)); refine jt ⟨?_⟩
    exact ⟨rfl, hS.nil⟩
structure SPI where
  key : Bytes
  out : List PartM
  a : Option Addr
  c : Nat
def SplPost (k : Bytes) (v : Value) (w w' : World) : Prop :=
  (∃ ps a cap L, v = .tuple ⟨[.slice a ps.length cap, .int .i64 0]⟩ ∧ Spl k ps ∧ Vec T_api_Part 3 a ps.length cap (ps.flatMap partC) L ∧ St w [] L w') ∨
  (v = .tuple ⟨[.slice none 0 0, .int .i64 3]⟩ ∧ (∀ ps, ¬ Spl k ps) ∧ St w [] [] w')
theorem spl_push {k key rest : Bytes} {out : List PartM} {p : PartM} (hx : ∀ ps, Spl k ps ↔ ∃ qs, ps = out ++ qs ∧ Spl key qs) (hs : ∀ qs, Spl key qs ↔ ∃ q, qs = p :: q ∧ Spl rest q) :
    ∀ ps, Spl k ps ↔ ∃ qs, ps = (out ++ [p]) ++ qs ∧ Spl rest qs := fun ps => (hx ps).trans
  ⟨fun ⟨qs, e, hq⟩ => by obtain ⟨q, e', hq'⟩ := (hs qs).1 hq; exact ⟨q, by rw [e, e']; simp, hq'⟩,
   fun ⟨q, e, hq⟩ => ⟨p :: q, by rw [e]; simp, (hs _).2 ⟨q, rfl, hq⟩⟩⟩
set_option maxRecDepth 4000 in
set_option maxHeartbeats 4000000 in
theorem OSplit_spec {w : World} {k : Bytes} (hk : k.length ≤ 1048576) : Cl Tryz.prog f_order_Split [Str k] w fun v w' => SplPost k v w w' := by
  have hS := St.start w
  refine en_order_Split rfl ?_
  refine jq ⟨?_⟩
  refine SemW.loop (fun x : SPI => [(0, Str x.key), (4, .slice x.a x.out.length x.c)])
    (fun x w' => (x.key.length + x.out.length ≤ k.length ∧ ∀ ps, Spl k ps ↔ ∃ qs, ps = x.out ++ qs ∧ Spl x.key qs) ∧ ∃ L, Vec T_api_Part 3 x.a x.out.length x.c (x.out.flatMap partC) L ∧ St w [] L w') (fun x => x.key.length) ⟨k, [], none, 0⟩
    ⟨rfl, rfl, trivial⟩ ⟨⟨Nat.le_refl _, fun ps => ⟨fun h => ⟨ps, rfl, h⟩, fun ⟨qs, e, h⟩ => by rw [e]; exact h⟩⟩, [], Vec.nil, hS⟩ ?_
  clear hS
  rintro ⟨key, out, a, c⟩ w2 ⟨⟨hl, hx⟩, L, hv, hS⟩
  simp only at hl hx hv hS ⊢
  by_cases hke : key = []
  · subst hke
    (repeat (refine jt ⟨?_⟩; refine hS.st rfl rfl ?_; intro _ hS)); refine jt ⟨?_⟩
    exact .inl ⟨out, a, c, L, rfl, (hx out).2 ⟨[], by simp, spl_nil.2 rfl⟩, hv, hS⟩
  obtain ⟨ch, r, hkr⟩ : ∃ ch r, key = ch :: r := by
    cases key with
    | nil => exact absurd rfl hke
    | cons ch r => exact ⟨ch, r, rfl⟩
  have hkl : key.length = r.length + 1 := by rw [hkr]; rfl
  have hgd : key.getD (Int.toNat 0) 0 = ch := by rw [hkr]; rfl
  have hdr : key.drop (Int.toNat 1) = r := by rw [hkr]; rfl
  have hcb := ch.toNat_lt
  (repeat (refine jt ⟨?_⟩; refine hS.st rfl rfl ?_; intro _ hS)); refine jt ⟨?_⟩
  refine hS.al ?_
  intro b5 w3 _ hS
  (repeat (refine jt ⟨?_⟩; refine hS.st rfl rfl ?_; intro _ hS)); refine jt ⟨?_⟩
  rw [hgd]
  by_cases h1 : ch = 1
  · subst h1
    have hz1 : ((UInt8.toNat 1 : Nat) : Int) = 1 := rfl
    (repeat (refine jt ⟨?_⟩; refine hS.st rfl rfl ?_; intro _ hS)); refine jt ⟨?_⟩
    rw [hdr]
    refine Cl.mono (onumber_spec (by omega)) ?_
    rintro _ w4 ⟨rfl, hS'⟩
    have hS := hS.call0 hS'
    by_cases h8 : 8 ≤ r.length
    · rw [if_pos h8]
      unfold partC
      (repeat (refine jt ⟨?_⟩; refine hS.st rfl rfl ?_; intro _ hS)); refine jt ⟨?_⟩
      refine hS.al ?_
      intro q w6 _ hS
      (repeat (refine jt ⟨?_⟩; refine hS.st rfl rfl ?_; intro _ hS)); refine jt ⟨?_⟩
      refine St.app (sz := 3) (m := 1) tblOk rfl rfl rfl rfl hS hv (news := partC (PartM.num (unb (r.take 8)))) rfl (by have := hS.arr (b := q) (T' := []) (by simp); exact this) rfl (by show (_ + _) * 32 ≤ _; omega) (by omega) ?_
      intro a2 c2 L2 w9 hv hS
      have e9 : out.flatMap partC ++ partC (PartM.num (unb (r.take 8))) = (out ++ [PartM.num (unb (r.take 8))]).flatMap partC := by simp
      have e8 : out.length + 1 = (out ++ [PartM.num (unb (r.take 8))]).length := by simp
      rw [e9, e8] at hv
      rw [e8]
      (repeat (refine jt ⟨?_⟩; refine hS.st rfl rfl ?_; intro _ hS)); refine jt ⟨?_⟩
      refine ⟨⟨r.drop 8, out ++ [PartM.num (unb (r.take 8))], a2, c2⟩, ⟨rfl, rfl, trivial⟩, ⟨⟨by simp only [List.length_append, List.length_singleton, List.length_drop]; omega, spl_push hx fun qs => ?_⟩, L2, hv, hS.sub ((List.sublist_cons_self _ _).trans (List.sublist_cons_self _ _))⟩, by simp only [List.length_drop]; omega⟩
      rw [hkr]; exact spl_num h8
    · rw [if_neg h8]
      (repeat (refine jt ⟨?_⟩; refine hS.st rfl rfl ?_; intro _ hS)); refine jt ⟨?_⟩
      exact .inr ⟨rfl, fun ps hps => by obtain ⟨qs, -, hq⟩ := (hx ps).1 hps; exact spl_num_no (r := r) (by omega) qs (by rw [← hkr]; exact hq), hS.nil⟩
  have hn1 : ¬ ((ch.toNat : Nat) : Int) = 1 := fun h => h1 (UInt8.toNat_inj.1 (by show _ = 1; omega))
  by_cases h2 : ch = 2
  · subst h2
    have hz1 : ((UInt8.toNat 2 : Nat) : Int) = 2 := rfl
    (repeat (refine jt ⟨?_⟩; refine hS.st rfl rfl ?_; intro _ hS)); refine jt ⟨?_⟩
    rw [hdr]
    refine Cl.mono (otext_spec (by omega)) ?_
    rintro _ w4 ⟨rfl, hS'⟩
    have hS := hS.call0 hS'
    cases ht : txtM r with
    | none =>
      simp only
      (repeat (refine jt ⟨?_⟩; refine hS.st rfl rfl ?_; intro _ hS)); refine jt ⟨?_⟩
      exact .inr ⟨rfl, fun ps hps => by obtain ⟨qs, -, hq⟩ := (hx ps).1 hps; exact spl_text_no ht qs (by rw [← hkr]; exact hq), hS.nil⟩
    | some z =>
      obtain ⟨s, z⟩ := z
      simp only
      unfold partC
      (repeat (refine jt ⟨?_⟩; refine hS.st rfl rfl ?_; intro _ hS)); refine jt ⟨?_⟩
      refine hS.al ?_
      intro q w6 _ hS
      (repeat (refine jt ⟨?_⟩; refine hS.st rfl rfl ?_; intro _ hS)); refine jt ⟨?_⟩
      refine St.app (sz := 3) (m := 1) tblOk rfl rfl rfl rfl hS hv (news := partC (PartM.text s)) rfl (by have := hS.arr (b := q) (T' := []) (by simp); exact this) rfl (by show (_ + _) * 32 ≤ _; omega) (by omega) ?_
      intro a2 c2 L2 w9 hv hS
      have e9 : out.flatMap partC ++ partC (PartM.text s) = (out ++ [PartM.text s]).flatMap partC := by simp
      have e8 : out.length + 1 = (out ++ [PartM.text s]).length := by simp
      rw [e9, e8] at hv
      rw [e8]
      (repeat (refine jt ⟨?_⟩; refine hS.st rfl rfl ?_; intro _ hS)); refine jt ⟨?_⟩
      have hzl : z.length + 2 ≤ r.length := by rw [txtM_iff.1 ht]; simp only [List.length_append, List.length_cons]; omega
      refine ⟨⟨z, out ++ [PartM.text s], a2, c2⟩, ⟨rfl, rfl, trivial⟩, ⟨⟨by simp only [List.length_append, List.length_singleton]; omega, spl_push hx fun qs => ?_⟩, L2, hv, hS.sub ((List.sublist_cons_self _ _).trans (List.sublist_cons_self _ _))⟩, by simp only; omega⟩
      rw [hkr]; exact spl_text ht
  · have hn2 : ¬ ((ch.toNat : Nat) : Int) = 2 := fun h => h2 (UInt8.toNat_inj.1 (by show _ = 2; omega))
    (repeat (refine jt ⟨?_⟩; refine hS.st rfl rfl ?_; intro _ hS)); refine jt ⟨?_⟩
    exact .inr ⟨rfl, fun ps hps => by obtain ⟨qs, -, hq⟩ := (hx ps).1 hps; exact spl_other h1 h2 qs (by rw [← hkr]; exact hq), hS.nil⟩
end Go.Proofs.YtinkmidjbdnibaaGreatDoor
namespace Go.Eng
open Go
section
variable {P : Program} {T0 : Tbl}
def EqIt (n : Nat) (P : Program) (e : TypeId) (sz : Nat) (xs ys : List Value) (is : List Nat) (r : Bool) : Prop := ∀ k w, (Op.eqItems (k + n) e sz ⟨xs⟩ ⟨ys⟩ is).run P w = .ok r w
theorem EqIt.nil {n : Nat} {e : TypeId} {sz : Nat} {xs ys : List Value} : EqIt n P e sz xs ys [] true := fun k w => by simp [Op.eqItems]
theorem EqIt.cons {n : Nat} {e : TypeId} {sz i : Nat} {xs ys : List Value} {is : List Nat} {a b : Value} {r1 r2 : Bool} (h1 : PartIs P e xs (i * sz) a) (h2 : PartIs P e ys (i * sz) b) (h3 : EqV n P e a b r1) (h4 : EqIt n P e sz xs ys is r2) : EqIt n P e sz xs ys (i :: is) (r1 && r2) := fun k w => by
  have e4 := h4 k w
  simp only [Op.eqItems, Sem.run_bind, h1 w, h2 w, h3 k w, Result.andThen_ok]
  cases r1 with
  | false => simp
  | true => simp [e4]
theorem EqV.arr {n m sz : Nat} {t e : TypeId} {i : TypeInfo} (hu : P.underlying t = some (.array m e)) (hi : P.info? e = some i) (hs : P.cellsOf e = sz) {xs ys : List Value} {r : Bool} (h : EqIt n P e sz xs ys (List.range m) r) : EqV (n + 1) P t (.agg ⟨xs⟩) (.agg ⟨ys⟩) r := fun k w => by
  rw [show k + (n + 1) = (k + n) + 1 by omega, run_equalIn_array w (k + n) ⟨xs⟩ ⟨ys⟩ hu hi, hs]
  exact h k w
end
end Go.Eng
namespace Go.Proofs.YtinkmidjbdnibaaGreatDoor
open Go Go.Eng Go.Proofs
theorem flatRow_at (rs : List RowM) (k : Nat) (hk : k < rs.length) (j : Nat) (hj : j < 5) : (rs.flatMap rowC)[k * 5 + j]? = (rowC rs[k])[j]? := by
  induction rs generalizing k with
  | nil => simp at hk
  | cons r rs ih =>
    have hl : (rowC r).length = 5 := rfl
    rw [List.flatMap_cons]
    cases k with
    | zero => rw [List.getElem?_append_left (by omega), Nat.zero_mul, Nat.zero_add]; rfl
    | succ k =>
      rw [List.getElem?_append_right (by omega), hl, show (k + 1) * 5 + j - 5 = k * 5 + j by omega]
      exact ih k (by simpa using hk)
theorem flatRow_len (rs : List RowM) : (rs.flatMap rowC).length = rs.length * 5 := by
  induction rs with
  | nil => rfl
  | cons r rs ih => rw [List.flatMap_cons, List.length_append, ih, List.length_cons]; show 5 + _ = _; omega
structure RowsAt (w : World) (a : Option Addr) (cap : Nat) (rs : List RowM) : Prop where
  arr : Arr w [] a (rs.flatMap rowC)
  cap : rs.length ≤ cap
theorem RowsAt.keep {w0 w : World} {H : Heap} (hS : St w0 [] H w) {a : Option Addr} {cap : Nat} {rs : List RowM} (h : RowsAt w0 a cap rs) : RowsAt w a cap rs := ⟨hS.arrOld h.arr, h.cap⟩
theorem RowsAt.pos {w : World} {a : Option Addr} {cap : Nat} {l : List RowM} (h : RowsAt w a cap l) (hl : 0 < l.length) : ∃ g off, a = some ⟨g, off, none⟩ := by
  have := flatRow_len l
  obtain ⟨g, off, hg, -, -⟩ := h.arr.get (j := 0) (by omega)
  exact ⟨g, off, hg⟩
theorem flatRow_take (rs : List RowM) (k : Nat) (hk : k < rs.length) : ((rs.flatMap rowC).drop (k * 5)).take 5 = rowC rs[k] := by
  apply List.ext_getElem?
  intro j
  rw [List.getElem?_take]
  split
  · next hj => rw [List.getElem?_drop, flatRow_at rs k hk j hj]
  · next hj => rw [List.getElem?_eq_none (by show 5 ≤ j; omega)]
abbrev rowV (r : RowM) : Value := .agg ⟨rowC r⟩
theorem eqRow (a b : RowM) : EqV 2 Tryz.prog T_api_Row (rowV a) (rowV b) (decide (a = b)) := by
  have h : EqV 2 Tryz.prog T_api_Row (rowV a) (rowV b) (decide (a.num = b.num) && (decide (a.cab = b.cab) && (decide (a.zone = b.zone) && (decide (a.exit = b.exit) && (decide (a.seats = b.seats) && true))))) := by
    refine EqV.struct (d := [(T_int, 0), (T_int, 1), (T_int, 2), (T_bool, 3), (T_string, 4)]) (by kernel_rfl) (by kernel_rfl) (by kernel_rfl) ?_
    refine EqFs.cons (PartIs.one tblOk rfl rfl rfl) (PartIs.one tblOk rfl rfl rfl) (EqV.int tblOk rfl rfl _ _) ?_
    refine EqFs.cons (PartIs.one tblOk rfl rfl rfl) (PartIs.one tblOk rfl rfl rfl) (EqV.int tblOk rfl rfl _ _) ?_
    refine EqFs.cons (PartIs.one tblOk rfl rfl rfl) (PartIs.one tblOk rfl rfl rfl) (EqV.int tblOk rfl rfl _ _) ?_
    refine EqFs.cons (PartIs.one tblOk rfl rfl rfl) (PartIs.one tblOk rfl rfl rfl) (EqV.bool tblOk rfl rfl _ _) ?_
    exact EqFs.cons (PartIs.one tblOk rfl rfl rfl) (PartIs.one tblOk rfl rfl rfl) (EqV.str tblOk rfl rfl _ _) EqFs.nil
  have e : decide (a = b) = (decide (a.num = b.num) && (decide (a.cab = b.cab) && (decide (a.zone = b.zone) && (decide (a.exit = b.exit) && (decide (a.seats = b.seats) && true))))) := by
    rw [Bool.eq_iff_iff]
    simp only [decide_eq_true_eq, Bool.and_eq_true, and_true]
    constructor
    · rintro rfl; exact ⟨rfl, rfl, rfl, rfl, rfl⟩
    · rintro ⟨h1, h2, h3, h4, h5⟩
      cases a; cases b
      simp only at h1 h2 h3 h4 h5
      rw [h1, h2, h3, h4, h5]
  rw [e]; exact h
set_option maxRecDepth 4000 in
set_option maxHeartbeats 8000000 in
theorem rrflight_spec {w : World} {xr rb : Nat} {s : RB} {id : Int} (hh : Holds (rrH xr rb s) w) (ht : s.t.length ≤ 1000000000) :
    Cl Tryz.prog f_rows_reader_flight [ptr xr, .int .i64 id] w fun v w' => v = .agg ⟨flC (rFl s id).1⟩ ∧ St w [xr, rb] (rrH xr rb (rFl s id).2) w' := by
  have hS : St w [xr, rb] (rrH xr rb s) w := St.enter hh
  refine en_rows_reader_flight rfl ?_
  (repeat (refine jt ⟨?_⟩; refine hS.st rfl rfl ?_; intro _ hS)); refine jt ⟨?_⟩
  refine hS.al ?_
  intro b4 w1 _ hS
  (repeat (refine jt ⟨?_⟩; refine hS.st rfl rfl ?_; intro _ hS)); refine jt ⟨?_⟩
  refine Cl.mono (rrint_spec (s := s) (hS.part (L := rrH xr rb (s))) (by omega)) ?_
  rintro _ w8 ⟨rfl, hS'⟩
  have hS := hS.call (L := rrH xr rb (s)) hS'
  have ht := Nat.le_trans (rbInt_t s) ht
  (repeat (refine jt ⟨?_⟩; refine hS.st rfl rfl ?_; intro _ hS)); refine jt ⟨?_⟩
  refine Cl.mono (rrint_spec (s := (rbInt s).2) (hS.part (L := rrH xr rb ((rbInt s).2))) (by omega)) ?_
  rintro _ w8 ⟨rfl, hS'⟩
  have hS := hS.call (L := rrH xr rb ((rbInt s).2)) hS'
  have ht := Nat.le_trans (rbInt_t (rbInt s).2) ht
  (repeat (refine jt ⟨?_⟩; refine hS.st rfl rfl ?_; intro _ hS)); refine jt ⟨?_⟩
  refine Cl.mono (rrint_spec (s := (rbInt (rbInt s).2).2) (hS.part (L := rrH xr rb ((rbInt (rbInt s).2).2))) (by omega)) ?_
  rintro _ w8 ⟨rfl, hS'⟩
  have hS := hS.call (L := rrH xr rb ((rbInt (rbInt s).2).2)) hS'
  have ht := Nat.le_trans (rbInt_t (rbInt (rbInt s).2).2) ht
  (repeat (refine jt ⟨?_⟩; refine hS.st rfl rfl ?_; intro _ hS)); refine jt ⟨?_⟩
  refine hS.al ?_
  intro b5 w2 _ hS
  (repeat (refine jt ⟨?_⟩; refine hS.st rfl rfl ?_; intro _ hS)); refine jt ⟨?_⟩
  have hX : rFl s id = (⟨id, (rbInt s).1, (rbInt (rbInt s).2).1, (rbInt (rbInt (rbInt s).2).2).1, (wInts 4 (rbInt (rbInt (rbInt s).2).2).2).1.getD 0 0, (wInts 4 (rbInt (rbInt (rbInt s).2).2).2).1.getD 1 0, (wInts 4 (rbInt (rbInt (rbInt s).2).2).2).1.getD 2 0, (wInts 4 (rbInt (rbInt (rbInt s).2).2).2).1.getD 3 0⟩, (wInts 4 (rbInt (rbInt (rbInt s).2).2).2).2) := rfl
  rw [hX]
  clear hX
  generalize (rbInt s).1 = i0 at hS ⊢
  generalize (rbInt (rbInt s).2).1 = i1 at hS ⊢
  generalize (rbInt (rbInt (rbInt s).2).2).1 = i2 at hS ⊢
  generalize (rbInt (rbInt (rbInt s).2).2).2 = s4 at hS ht ⊢
  refine SemW.loop (fun z : LI => [(0, ptr xr), (4, ptr b4), (5, ptr b5), (15, .int .i64 z.k)])
    (fun z w' => ((z.l.length = z.k ∧ z.k ≤ 4) ∧ (z.l ++ (wInts (4 - z.l.length) z.s).1, (wInts (4 - z.l.length) z.s).2) = wInts 4 s4 ∧ z.s.t.length ≤ 1000000000) ∧ St w [xr, rb] ((b5, .cells ⟨flC ⟨id, i0, i1, i2, z.l.getD 0 0, z.l.getD 1 0, z.l.getD 2 0, z.l.getD 3 0⟩⟩ T_api_Flight (0, 0)) :: (b4, .cells ⟨flC ⟨0, 0, 0, 0, 0, 0, 0, 0⟩⟩ T_api_Flight (0, 0)) :: rrH xr rb z.s) w') (fun z => 4 - z.k) ⟨0, [], s4⟩
    ⟨rfl, rfl, rfl, rfl, trivial⟩ ⟨⟨⟨rfl, Nat.zero_le _⟩, rfl, by simp only; omega⟩, hS⟩ ?_
  clear hS hS'
  rintro ⟨j, x, s5⟩ w7 ⟨⟨⟨hxk, hk4⟩, hx, ht⟩, hS⟩
  simp only at hxk hk4 hx ht hS ⊢
  have hS : St w [xr, rb] ((b5, .cells ⟨[.int .i64 id, .int .i64 i0, .int .i64 i1, .int .i64 i2, .int .i64 (x.getD 0 0), .int .i64 (x.getD 1 0), .int .i64 (x.getD 2 0), .int .i64 (x.getD 3 0)]⟩ T_api_Flight (0, 0)) :: (b4, .cells ⟨[.int .i64 0, .int .i64 0, .int .i64 0, .int .i64 0, .int .i64 0, .int .i64 0, .int .i64 0, .int .i64 0]⟩ T_api_Flight (0, 0)) :: rrH xr rb s5) _ := hS
  by_cases hj : j < 4
  · have hx2 := wInts_step (n := 4) (by omega) hx
    have ht3 := rbInt_t s5
    (repeat (refine jt ⟨?_⟩; refine hS.st rfl rfl ?_; intro _ hS)); refine jt ⟨?_⟩
    refine Cl.mono (rrint_spec (s := s5) (hS.part (L := rrH xr rb s5)) (by omega)) ?_
    rintro _ w8 ⟨rfl, hS'⟩
    have hS := hS.call (L := rrH xr rb s5) hS'
    generalize rbInt s5 = y at hS hx2 ht3 ⊢
    obtain ⟨v, s6⟩ := y
    simp only at hS hx2 ht3 ⊢
    rcases (show j = 0 ∨ j = 1 ∨ j = 2 ∨ j = 3 by omega) with rfl | rfl | rfl | rfl
    · obtain rfl := List.length_eq_zero_iff.1 hxk
      (repeat (refine jt ⟨?_⟩; refine hS.st rfl rfl ?_; intro _ hS)); refine jt ⟨?_⟩
      exact ⟨⟨1, [v], s6⟩, ⟨rfl, rfl, rfl, rfl, trivial⟩, ⟨⟨⟨rfl, by simp only; omega⟩, hx2, by simp only; omega⟩, hS⟩, by simp only; omega⟩
    · obtain ⟨y0, rfl⟩ : ∃ a, x = [a] := ⟨_, lst1 0 hxk⟩
      (repeat (refine jt ⟨?_⟩; refine hS.st rfl rfl ?_; intro _ hS)); refine jt ⟨?_⟩
      exact ⟨⟨2, [y0, v], s6⟩, ⟨rfl, rfl, rfl, rfl, trivial⟩, ⟨⟨⟨rfl, by simp only; omega⟩, hx2, by simp only; omega⟩, hS⟩, by simp only; omega⟩
    · obtain ⟨y0, y1, rfl⟩ : ∃ a b, x = [a, b] := ⟨_, _, lst2 0 hxk⟩
      (repeat (refine jt ⟨?_⟩; refine hS.st rfl rfl ?_; intro _ hS)); refine jt ⟨?_⟩
      exact ⟨⟨3, [y0, y1, v], s6⟩, ⟨rfl, rfl, rfl, rfl, trivial⟩, ⟨⟨⟨rfl, by simp only; omega⟩, hx2, by simp only; omega⟩, hS⟩, by simp only; omega⟩
    · obtain ⟨y0, y1, y2, rfl⟩ : ∃ a b c, x = [a, b, c] := ⟨_, _, _, lst3 0 hxk⟩
      (repeat (refine jt ⟨?_⟩; refine hS.st rfl rfl ?_; intro _ hS)); refine jt ⟨?_⟩
      exact ⟨⟨4, [y0, y1, y2, v], s6⟩, ⟨rfl, rfl, rfl, rfl, trivial⟩, ⟨⟨⟨rfl, by simp only; omega⟩, hx2, by simp only; omega⟩, hS⟩, by simp only; omega⟩
  · have hk4 : j = 4 := by omega
    rw [show 4 - x.length = 0 by omega] at hx
    have hx : (x, s5) = wInts 4 s4 := by simpa [wInts] using hx
    rw [← hx]
    simp only
    (repeat (refine jt ⟨?_⟩; refine hS.st rfl rfl ?_; intro _ hS)); refine jt ⟨?_⟩
    exact ⟨rfl, hS.sub (by simp)⟩
structure RWQ where
  i : Nat
  s : RB
  l : List RowM
  a : Option Addr
  c : Nat
def EqPost (y : RB × List RowM) (id : Int) (xr rb : Nat) (v : Value) (w w' : World) : Prop :=
  ∃ a cap L, v = .agg ⟨[.int .i64 id, .slice a y.2.length cap]⟩ ∧ Vec T_api_Row 5 a y.2.length cap (y.2.flatMap rowC) L ∧ St w [xr, rb] (rrH xr rb y.1 ++ L) w'
set_option maxRecDepth 4000 in
set_option maxHeartbeats 8000000 in
theorem rrequip_spec {w : World} {xr rb : Nat} {s : RB} {id : Int} (hh : Holds (rrH xr rb s) w) (ht : s.t.length ≤ 1000000000) :
    Cl Tryz.prog f_rows_reader_equip [ptr xr, .int .i64 id] w fun v w' => EqPost (rRowsT s) id xr rb v w w' := by
  have hS : St w [xr, rb] (rrH xr rb s) w := St.enter hh
  unfold rRowsT
  refine en_rows_reader_equip rfl ?_
  (repeat (refine jt ⟨?_⟩; refine hS.st rfl rfl ?_; intro _ hS)); refine jt ⟨?_⟩
  refine hS.al ?_
  intro b4 w1 _ hS
  (repeat (refine jt ⟨?_⟩; refine hS.st rfl rfl ?_; intro _ hS)); refine jt ⟨?_⟩
  refine hS.al ?_
  intro b5 w2 _ hS
  (repeat (refine jt ⟨?_⟩; refine hS.st rfl rfl ?_; intro _ hS)); refine jt ⟨?_⟩
  refine Cl.mono (rrnum_spec (s := s) (hS.part (L := rrH xr rb s)) (by omega)) ?_
  rintro _ w3 ⟨rfl, hS'⟩
  have hS := hS.call (L := rrH xr rb s) hS'
  have ht1 := Nat.le_trans (rbNum_t s) ht
  have hlt : (rbNum s).1 < 18446744073709551616 := numO_lt s.t
  generalize rbNum s = y at hS ht1 hlt ⊢
  obtain ⟨n, s1⟩ := y
  simp only at hS ht1 hlt ⊢
  have hS : St w [xr, rb] ((b5, .cells ⟨[.int .i64 id, .slice none 0 0]⟩ T_api_Equip (0, 0)) :: (b4, .cells ⟨[.int .i64 0, .slice none 0 0]⟩ T_api_Equip (0, 0)) :: rrH xr rb s1) _ := hS
  (repeat (refine jt ⟨?_⟩; refine hS.st rfl rfl ?_; intro _ hS)); refine jt ⟨?_⟩
  refine SemW.loop (fun z : RWQ => [(0, ptr xr), (4, ptr b4), (5, ptr b5), (6, .int .u64 ((n - z.i : Nat) : Int))])
    (fun z w' => (z.i ≤ n ∧ rRows (n - z.i) (z.s, z.l) = rRows n (s1, []) ∧ z.s.t.length ≤ 1000000000 ∧ z.l.length + z.s.t.length ≤ 1000000000 + bitW z.s.bad) ∧ ∃ L, Vec T_api_Row 5 z.a z.l.length z.c (z.l.flatMap rowC) L ∧ St w [xr, rb] ((b5, .cells ⟨[.int .i64 id, .slice z.a z.l.length z.c]⟩ T_api_Equip (0, 0)) :: (b4, .cells ⟨[.int .i64 0, .slice none 0 0]⟩ T_api_Equip (0, 0)) :: (rrH xr rb z.s ++ L)) w') (fun z => n - z.i) ⟨0, s1, [], none, 0⟩
    ⟨rfl, rfl, rfl, rfl, trivial⟩ ⟨⟨Nat.zero_le _, rfl, ht1, by simp only [List.length_nil]; omega⟩, [], Vec.nil, by rw [List.append_nil]; exact hS⟩ ?_
  clear hS hS'
  generalize hX : rRows n (s1, []) = X
  rintro ⟨i, ⟨t2, bd⟩, l, a, c⟩ w5 ⟨⟨hi, hx, htl, hsz⟩, L, hv, hS⟩
  simp only at hi hx htl hsz hv hS ⊢
  have hgo : i < n ∧ bd = false ∨ (⟨t2, bd⟩, l) = X ∧ (i = n ∨ bd = true) := by
    by_cases hin : i < n
    · cases bd with
      | true => rw [rRows_halt _ _ _ rfl] at hx; exact .inr ⟨hx, .inr rfl⟩
      | false => exact .inl ⟨hin, rfl⟩
    · rw [show n - i = 0 by omega] at hx; exact .inr ⟨hx, .inl (by omega)⟩
  rcases hgo with ⟨hin, rfl⟩ | ⟨hX2, hend⟩
  · have hb1 : bitW false = 0 := rfl
    rw [show n - i = (n - (i + 1)) + 1 by omega, rRows_go _ _ _ rfl] at hx
    have hd := rRow_dec (s := ⟨t2, false⟩) rfl
    have hM : rRow ⟨t2, false⟩ = (⟨(rbInt ⟨t2, false⟩).1, (rbInt (rbInt ⟨t2, false⟩).2).1, (rbInt (rbInt (rbInt ⟨t2, false⟩).2).2).1, (rMarks 1 (rbInt (rbInt (rbInt ⟨t2, false⟩).2).2).2).1.getD 0 false, (wText (rMarks 1 (rbInt (rbInt (rbInt ⟨t2, false⟩).2).2).2).2).1⟩, (wText (rMarks 1 (rbInt (rbInt (rbInt ⟨t2, false⟩).2).2).2).2).2) := rfl
    have ht : (⟨t2, false⟩ : RB).t.length ≤ 1000000000 := htl
    (repeat (refine jt ⟨?_⟩; refine hS.st rfl rfl ?_; intro _ hS)); refine jt ⟨?_⟩
    refine Cl.mono (rrint_spec (s := ⟨t2, false⟩) (hS.part (L := rrH xr rb (⟨t2, false⟩))) (by omega)) ?_
    rintro _ w8 ⟨rfl, hS'⟩
    have hS := hS.call (L := rrH xr rb (⟨t2, false⟩)) hS'
    have ht := Nat.le_trans (rbInt_t ⟨t2, false⟩) ht
    generalize rbInt ⟨t2, false⟩ = y at hS ht hM ⊢
    obtain ⟨z1, s3⟩ := y
    simp only at hS ht hM ⊢
    (repeat (refine jt ⟨?_⟩; refine hS.st rfl rfl ?_; intro _ hS)); refine jt ⟨?_⟩
    refine Cl.mono (rrint_spec (s := s3) (hS.part (L := rrH xr rb (s3))) (by omega)) ?_
    rintro _ w8 ⟨rfl, hS'⟩
    have hS := hS.call (L := rrH xr rb (s3)) hS'
    have ht := Nat.le_trans (rbInt_t s3) ht
    generalize rbInt s3 = y at hS ht hM ⊢
    obtain ⟨z2, s4⟩ := y
    simp only at hS ht hM ⊢
    (repeat (refine jt ⟨?_⟩; refine hS.st rfl rfl ?_; intro _ hS)); refine jt ⟨?_⟩
    refine Cl.mono (rrint_spec (s := s4) (hS.part (L := rrH xr rb (s4))) (by omega)) ?_
    rintro _ w8 ⟨rfl, hS'⟩
    have hS := hS.call (L := rrH xr rb (s4)) hS'
    have ht := Nat.le_trans (rbInt_t s4) ht
    generalize rbInt s4 = y at hS ht hM ⊢
    obtain ⟨z3, s5⟩ := y
    simp only at hS ht hM ⊢
    (repeat (refine jt ⟨?_⟩; refine hS.st rfl rfl ?_; intro _ hS)); refine jt ⟨?_⟩
    refine hS.al ?_
    intro b7 w6 _ hS
    (repeat (refine jt ⟨?_⟩; refine hS.st rfl rfl ?_; intro _ hS)); refine jt ⟨?_⟩
    refine Cl.mono (rrmarks_spec 1 (by decide) (hS.part (L := rrH xr rb s5)) (by omega)) ?_
    rintro _ w8 ⟨aM, cM, LM, rfl, hvm, hS'⟩
    have hS := hS.call (L := rrH xr rb s5) hS'
    have ht := Nat.le_trans (rMarks_t 1 s5) ht
    have hms := lst1 false (show (rMarks 1 s5).1.length = 1 from bitsN_len 1 _)
    generalize rMarks 1 s5 = y at hS ht hM hvm hms ⊢
    obtain ⟨ms, s6⟩ := y
    simp only at hS ht hM hvm hms ⊢
    generalize ms.getD 0 false = m at hM hms
    subst hms
    rcases hvm.inv with ⟨-, h0, -⟩ | ⟨g, l', rfl, hxx, hl', hnc, rfl⟩
    · omega
    have hS : St w [xr, rb] ((b7, .cells ⟨[.int .i64 z1, .int .i64 z2, .int .i64 z3, .bool false, Str []]⟩ T_api_Row (0, 0)) :: (b5, .cells ⟨[.int .i64 id, .slice a l.length c]⟩ T_api_Equip (0, 0)) :: (b4, .cells ⟨[.int .i64 0, .slice none 0 0]⟩ T_api_Equip (0, 0)) :: (rrH xr rb s6 ++ ((g, .cells ⟨.bool m :: l'⟩ T_bool (0, 0)) :: L))) w8 := hS
    (repeat (refine jt ⟨?_⟩; refine hS.st rfl rfl ?_; intro _ hS)); refine jt ⟨?_⟩
    refine Cl.mono (rrtext_spec (s := s6) (hS.part (L := rrH xr rb s6)) (by omega)) ?_
    rintro _ w9 ⟨rfl, hS'⟩
    have hS := hS.call (L := rrH xr rb s6) hS'
    have ht := Nat.le_trans (wText_tlen s6) ht
    generalize wText s6 = y at hS ht hM ⊢
    obtain ⟨x, s7⟩ := y
    simp only at hS ht hM ⊢
    (repeat (refine jt ⟨?_⟩; refine hS.st rfl rfl ?_; intro _ hS)); refine jt ⟨?_⟩
    refine hS.al ?_
    intro r w11 _ hS
    have hS : St w [xr, rb] ((r, .cells ⟨rowC ⟨z1, z2, z3, m, x⟩⟩ T_api_Row (0, 0)) :: (b7, .cells ⟨rowC ⟨z1, z2, z3, m, x⟩⟩ T_api_Row (0, 0)) :: (b5, .cells ⟨[.int .i64 id, .slice a l.length c]⟩ T_api_Equip (0, 0)) :: (b4, .cells ⟨[.int .i64 0, .slice none 0 0]⟩ T_api_Equip (0, 0)) :: (rrH xr rb s7 ++ ((g, .cells ⟨.bool m :: l'⟩ T_bool (0, 0)) :: L))) w11 := hS
    rw [hM] at hd hx
    generalize (⟨z1, z2, z3, m, x⟩ : RowM) = row at hS hd hx
    simp only at hd hx
    (repeat (refine jt ⟨?_⟩; refine hS.st rfl rfl ?_; intro _ hS)); refine jt ⟨?_⟩
    refine St.app (sz := 5) (m := 1) tblOk rfl rfl rfl rfl hS hv (news := rowC row) rfl (by have := hS.arr (b := r) (T' := []) (by simp); exact this) rfl (by show (_ + _) * 48 ≤ _; omega) (by omega) ?_
    intro a2 c2 L2 w12 hv hS
    have e9 : l.flatMap rowC ++ rowC row = (l ++ [row]).flatMap rowC := by simp
    have e8 : l.length + 1 = (l ++ [row]).length := by simp
    rw [e9, e8] at hv
    rw [e8]
    (repeat (refine jt ⟨?_⟩; refine hS.st rfl rfl ?_; intro _ hS)); refine jt ⟨?_⟩
    exact ⟨⟨i + 1, s7, l ++ [row], a2, c2⟩, ⟨rfl, rfl, rfl, by show _ = Value.int .u64 _; congr 1; simp only; omega, trivial⟩, ⟨⟨by simp only; omega, hx, by simp only; omega, by simp only [List.length_append, List.length_singleton]; omega⟩, L2, hv, hS.sub (List.Sublist.cons _ (List.Sublist.cons _ (List.Sublist.cons_cons _ (List.Sublist.cons_cons _ (List.Sublist.append_left (List.sublist_cons_self _ _) _)))))⟩, by simp only; omega⟩
  · rcases hend with rfl | rfl
    · rw [Nat.sub_self]
      (repeat (refine jt ⟨?_⟩; refine hS.st rfl rfl ?_; intro _ hS)); refine jt ⟨?_⟩
      exact ⟨a, c, L, by rw [← hX2], by rw [← hX2]; exact hv, by rw [← hX2]; exact hS.sub ((List.sublist_cons_self _ _).trans (List.sublist_cons_self _ _))⟩
    · by_cases hin : i < n
      · (repeat (refine jt ⟨?_⟩; refine hS.st rfl rfl ?_; intro _ hS)); refine jt ⟨?_⟩
        exact ⟨a, c, L, by rw [← hX2], by rw [← hX2]; exact hv, by rw [← hX2]; exact hS.sub ((List.sublist_cons_self _ _).trans (List.sublist_cons_self _ _))⟩
      · (repeat (refine jt ⟨?_⟩; refine hS.st rfl rfl ?_; intro _ hS)); refine jt ⟨?_⟩
        exact ⟨a, c, L, by rw [← hX2], by rw [← hX2]; exact hv, by rw [← hX2]; exact hS.sub ((List.sublist_cons_self _ _).trans (List.sublist_cons_self _ _))⟩
theorem parseO_nil : parseO [] = (0, 0, false) := by decide
def rPaxT (id i0 i1 i2 i3 i4 i5 : Int) (m : List Bool) (y : Bytes × RB) : PaxM × RB :=
  (⟨id, i0, i1, m.getD 0 false, m.getD 1 false, m.getD 2 false, m.getD 3 false, i2, i3, i4, i5, (parseO y.1).1, (parseO y.1).2.1⟩, ⟨y.2.t, y.2.bad || (!(parseO y.1).2.2 && decide (y.1 ≠ []))⟩)
def rPaxM (id i0 i1 i2 i3 i4 i5 : Int) (s : RB) : PaxM × RB := rPaxT id i0 i1 i2 i3 i4 i5 (rMarks 4 s).1 (wText (rMarks 4 s).2)
theorem rPax_eq (s : RB) (id : Int) : rPax s id = rPaxM id (rbInt s).1 (rbInt (rbInt s).2).1 (rbInt (rbInt (rbInt s).2).2).1 (rbInt (rbInt (rbInt (rbInt s).2).2).2).1 (rbInt (rbInt (rbInt (rbInt (rbInt s).2).2).2).2).1 (rbInt (rbInt (rbInt (rbInt (rbInt (rbInt s).2).2).2).2).2).1 (rbInt (rbInt (rbInt (rbInt (rbInt (rbInt s).2).2).2).2).2).2 := by
  unfold rPax tk
  rfl
set_option maxRecDepth 4000 in
set_option maxHeartbeats 8000000 in
theorem rrpax_spec {w : World} {xr rb : Nat} {s : RB} {id : Int} (hh : Holds (rrH xr rb s) w) (ht : s.t.length ≤ 1000000000) (hE : ErrVars w) :
    Cl Tryz.prog f_rows_reader_pax [ptr xr, .int .i64 id] w fun v w' => v = .agg ⟨paxC (rPax s id).1⟩ ∧ St w [xr, rb] (rrH xr rb (rPax s id).2) w' := by
  have hS : St w [xr, rb] (rrH xr rb s) w := St.enter hh
  have hap1 := hE.apart (b := xr) (x := ptr rb) (l := [.bool s.bad]) (t := T_rows_reader) (fz := (0, 0)) (hh.own (xr, _) (by simp)) (fun _ _ => nofun)
  have hap2 := hE.apart (b := rb) (x := Str s.t) (l := []) (t := T_pack_Reader) (fz := (0, 0)) (hh.own (rb, _) (by simp)) (fun _ _ => nofun)
  obtain ⟨X, hM⟩ : ∃ X, rPaxM id (rbInt s).1 (rbInt (rbInt s).2).1 (rbInt (rbInt (rbInt s).2).2).1 (rbInt (rbInt (rbInt (rbInt s).2).2).2).1 (rbInt (rbInt (rbInt (rbInt (rbInt s).2).2).2).2).1 (rbInt (rbInt (rbInt (rbInt (rbInt (rbInt s).2).2).2).2).2).1 (rbInt (rbInt (rbInt (rbInt (rbInt (rbInt s).2).2).2).2).2).2 = X := ⟨_, rfl⟩
  rw [rPax_eq, hM]
  refine en_rows_reader_pax rfl ?_
  (repeat (refine jt ⟨?_⟩; refine hS.st rfl rfl ?_; intro _ hS)); refine jt ⟨?_⟩
  refine hS.al ?_
  intro b4 w1 _ hS
  (repeat (refine jt ⟨?_⟩; refine hS.st rfl rfl ?_; intro _ hS)); refine jt ⟨?_⟩
  refine Cl.mono (rrint_spec (s := s) (hS.part (L := rrH xr rb (s))) (by omega)) ?_
  rintro _ w8 ⟨rfl, hS'⟩
  have hS := hS.call (L := rrH xr rb (s)) hS'
  have ht := Nat.le_trans (rbInt_t s) ht
  generalize rbInt s = y at hS ht hM ⊢
  obtain ⟨i0, s1⟩ := y
  simp only at hS ht hM ⊢
  (repeat (refine jt ⟨?_⟩; refine hS.st rfl rfl ?_; intro _ hS)); refine jt ⟨?_⟩
  refine hS.al ?_
  intro b5 w2 _ hS
  (repeat (refine jt ⟨?_⟩; refine hS.st rfl rfl ?_; intro _ hS)); refine jt ⟨?_⟩
  refine Cl.mono (rrint_spec (s := s1) (hS.part (L := rrH xr rb (s1))) (by omega)) ?_
  rintro _ w8 ⟨rfl, hS'⟩
  have hS := hS.call (L := rrH xr rb (s1)) hS'
  have ht := Nat.le_trans (rbInt_t s1) ht
  generalize rbInt s1 = y at hS ht hM ⊢
  obtain ⟨i1, s2⟩ := y
  simp only at hS ht hM ⊢
  (repeat (refine jt ⟨?_⟩; refine hS.st rfl rfl ?_; intro _ hS)); refine jt ⟨?_⟩
  refine Cl.mono (rrint_spec (s := s2) (hS.part (L := rrH xr rb (s2))) (by omega)) ?_
  rintro _ w8 ⟨rfl, hS'⟩
  have hS := hS.call (L := rrH xr rb (s2)) hS'
  have ht := Nat.le_trans (rbInt_t s2) ht
  generalize rbInt s2 = y at hS ht hM ⊢
  obtain ⟨i2, s3⟩ := y
  simp only at hS ht hM ⊢
  (repeat (refine jt ⟨?_⟩; refine hS.st rfl rfl ?_; intro _ hS)); refine jt ⟨?_⟩
  refine Cl.mono (rrint_spec (s := s3) (hS.part (L := rrH xr rb (s3))) (by omega)) ?_
  rintro _ w8 ⟨rfl, hS'⟩
  have hS := hS.call (L := rrH xr rb (s3)) hS'
  have ht := Nat.le_trans (rbInt_t s3) ht
  generalize rbInt s3 = y at hS ht hM ⊢
  obtain ⟨i3, s4⟩ := y
  simp only at hS ht hM ⊢
  (repeat (refine jt ⟨?_⟩; refine hS.st rfl rfl ?_; intro _ hS)); refine jt ⟨?_⟩
  refine Cl.mono (rrint_spec (s := s4) (hS.part (L := rrH xr rb (s4))) (by omega)) ?_
  rintro _ w8 ⟨rfl, hS'⟩
  have hS := hS.call (L := rrH xr rb (s4)) hS'
  have ht := Nat.le_trans (rbInt_t s4) ht
  generalize rbInt s4 = y at hS ht hM ⊢
  obtain ⟨i4, s5⟩ := y
  simp only at hS ht hM ⊢
  (repeat (refine jt ⟨?_⟩; refine hS.st rfl rfl ?_; intro _ hS)); refine jt ⟨?_⟩
  refine Cl.mono (rrint_spec (s := s5) (hS.part (L := rrH xr rb (s5))) (by omega)) ?_
  rintro _ w8 ⟨rfl, hS'⟩
  have hS := hS.call (L := rrH xr rb (s5)) hS'
  have ht := Nat.le_trans (rbInt_t s5) ht
  generalize rbInt s5 = y at hS ht hM ⊢
  obtain ⟨i5, s6⟩ := y
  simp only at hS ht hM ⊢
  (repeat (refine jt ⟨?_⟩; refine hS.st rfl rfl ?_; intro _ hS)); refine jt ⟨?_⟩
  refine Cl.mono (rrmarks_spec 4 (by decide) (hS.part (L := rrH xr rb s6)) (by omega)) ?_
  rintro _ w8 ⟨aM, cM, LM, rfl, hvm, hS'⟩
  have hS := hS.call (L := rrH xr rb s6) hS'
  have ht := Nat.le_trans (rMarks_t 4 s6) ht
  have hms := lst4 false (show (rMarks 4 s6).1.length = 4 from bitsN_len 4 _)
  unfold rPaxM at hM
  generalize rMarks 4 s6 = y at hS ht hM hvm hms ⊢
  obtain ⟨ms, s7⟩ := y
  simp only at hS ht hM hvm hms ⊢
  generalize ms.getD 0 false = m0 at hms
  generalize ms.getD 1 false = m1 at hms
  generalize ms.getD 2 false = m2 at hms
  generalize ms.getD 3 false = m3 at hms
  subst hms
  rcases hvm.inv with ⟨-, h0, -⟩ | ⟨g, l', rfl, hxx, hl', hnc, rfl⟩
  · omega
  have hS : St w [xr, rb] ((b5, .cells ⟨[.int .i64 id, .int .i64 i0, .int .i64 i1, .bool false, .bool false, .bool false, .bool false, .int .i64 i2, .int .i64 i3, .int .i64 i4, .int .i64 i5, .int .i64 0, .int .u8 0]⟩ T_api_Pax (0, 0)) :: (b4, .cells ⟨[.int .i64 0, .int .i64 0, .int .i64 0, .bool false, .bool false, .bool false, .bool false, .int .i64 0, .int .i64 0, .int .i64 0, .int .i64 0, .int .i64 0, .int .u8 0]⟩ T_api_Pax (0, 0)) :: (rrH xr rb s7 ++ [(g, .cells ⟨.bool m0 :: .bool m1 :: .bool m2 :: .bool m3 :: l'⟩ T_bool (0, 0))])) w8 := hS
  (repeat (refine jt ⟨?_⟩; refine hS.st rfl rfl ?_; intro _ hS)); refine jt ⟨?_⟩
  refine SemW.draw tblOk mixed (fun w' => St w [xr, rb] [(g, .cells ⟨.bool m0 :: .bool m1 :: .bool m2 :: .bool m3 :: l'⟩ T_bool (0, 0))] w') [21] [0, 1, 2, 3, 4, 5, 6, 7, 8, 9, 10, 11, 12, 13, 14, 15, 16, 17, 18, 19, 20, 21] (by kernel_rfl) (hS.drew.sub (by simp)) ?_
  have hF := hS.drew
  have hS : St w [xr, rb] [(g, .cells ⟨.bool m0 :: .bool m1 :: .bool m2 :: .bool m3 :: l'⟩ T_bool (0, 0))] _ := hF.sub (by simp)
  refine jr ⟨?_⟩
  refine hF.st rfl rfl ?_
  intro _ hF
  refine Chk.mk (hF.sub (by simp)) ?_
  refine jr ⟨?_⟩
  refine hF.st rfl rfl ?_
  intro _ hF
  refine Chk.mk (hF.sub (by simp)) ?_
  refine jr ⟨?_⟩
  refine hF.st rfl rfl ?_
  intro _ hF
  refine Chk.mk (hF.sub (by simp)) ?_
  refine jr ⟨?_⟩
  refine hF.st rfl rfl ?_
  intro _ hS
  (repeat (refine jt ⟨?_⟩; refine hS.st rfl rfl ?_; intro _ hS)); refine jt ⟨?_⟩
  refine Cl.mono (rrtext_spec (s := s7) (hS.part (L := rrH xr rb s7)) (by omega)) ?_
  rintro _ w9 ⟨rfl, hS'⟩
  have hS := hS.call (L := rrH xr rb s7) hS'
  have ht8 := Nat.le_trans (wText_tlen s7) ht
  have hxl := textO_len s7.t
  have hxl : (wText s7).1.length ≤ 1000000000 := by show (textO s7.t).1.length ≤ _; omega
  generalize wText s7 = y at hS ht8 hM hxl ⊢
  obtain ⟨x, t8, b8⟩ := y
  simp only at hS ht8 hM hxl ⊢
  have hS : St w [xr, rb] ((b5, .cells ⟨[.int .i64 id, .int .i64 i0, .int .i64 i1, .bool m0, .bool m1, .bool m2, .bool m3, .int .i64 i2, .int .i64 i3, .int .i64 i4, .int .i64 i5, .int .i64 0, .int .u8 0]⟩ T_api_Pax (0, 0)) :: (b4, .cells ⟨[.int .i64 0, .int .i64 0, .int .i64 0, .bool false, .bool false, .bool false, .bool false, .int .i64 0, .int .i64 0, .int .i64 0, .int .i64 0, .int .i64 0, .int .u8 0]⟩ T_api_Pax (0, 0)) :: ((xr, .cells ⟨[ptr rb, .bool b8]⟩ T_rows_reader (0, 0)) :: (rb, rdC t8) :: [(g, .cells ⟨.bool m0 :: .bool m1 :: .bool m2 :: .bool m3 :: l'⟩ T_bool (0, 0))])) w9 := hS
  by_cases hx0 : x = []
  · subst hx0
    have hM2 : X = (⟨id, i0, i1, m0, m1, m2, m3, i2, i3, i4, i5, 0, 0⟩, ⟨t8, b8⟩) := by rw [← hM]; unfold rPaxT; simp only [parseO_nil, Bool.or_false, ne_eq, not_true_eq_false, decide_false, Bool.and_false]; rfl
    rw [hM2]
    (repeat (refine jt ⟨?_⟩; refine hS.st rfl rfl ?_; intro _ hS)); refine jt ⟨?_⟩
    exact ⟨rfl, hS.sub (by simp)⟩
  · (repeat (refine jt ⟨?_⟩; refine hS.st rfl rfl ?_; intro _ hS)); refine jt ⟨?_⟩
    refine Cl.mono (Parse_spec (s := x) (by omega) (hE.keep hS (by simp; exact ⟨fun h => hap1.1 h.symm, fun h => hap2.1 h.symm⟩) (by simp; exact ⟨fun h => hap1.2 h.symm, fun h => hap2.2 h.symm⟩))) ?_
    rintro _ w10 ⟨rfl, hS'⟩
    have hS := hS.call0 hS'
    have hM2 : X = (⟨id, i0, i1, m0, m1, m2, m3, i2, i3, i4, i5, (parseO x).1, (parseO x).2.1⟩, ⟨t8, b8 || !(parseO x).2.2⟩) := by rw [← hM]; unfold rPaxT; rw [decide_eq_true hx0, Bool.and_true]; rfl
    rw [hM2]
    clear hM hM2
    generalize parseO x = q at *
    obtain ⟨pn, pc, ok⟩ := q
    simp only at *
    unfold seatAt
    (repeat (refine jt ⟨?_⟩; refine hS.st rfl rfl ?_; intro _ hS)); refine jt ⟨?_⟩
    refine hS.al ?_
    intro b8' w11 _ hS
    (repeat (refine jt ⟨?_⟩; refine hS.st rfl rfl ?_; intro _ hS)); refine jt ⟨?_⟩
    cases b8 with
    | true =>
      (repeat (refine jt ⟨?_⟩; refine hS.st rfl rfl ?_; intro _ hS)); refine jt ⟨?_⟩
      exact ⟨rfl, hS.sub (List.Sublist.cons _ (List.Sublist.cons _ (List.Sublist.cons _ (List.Sublist.cons_cons _ (List.Sublist.cons_cons _ (List.nil_sublist _))))))⟩
    | false =>
      (repeat (refine jt ⟨?_⟩; refine hS.st rfl rfl ?_; intro _ hS)); refine jt ⟨?_⟩
      exact ⟨rfl, hS.sub (List.Sublist.cons _ (List.Sublist.cons _ (List.Sublist.cons _ (List.Sublist.cons_cons _ (List.Sublist.cons_cons _ (List.nil_sublist _))))))⟩
end Go.Proofs.YtinkmidjbdnibaaGreatDoor
