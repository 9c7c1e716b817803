/- Package rows: All. -/
import Derived.Test.YtlghahalejgkfaaDoorInForm
namespace Go.Proofs.YtlghahalejgkfaaDoor
open Go Go.Eng Go.Proofs
abbrev RecM := Bytes × Bytes
def opC (r : RecM) : List Value := [Str r.1, .bool false, Str r.2]
def eqRec (e : EquipM) : RecM := (keyB 101 e.id, equipB e)
def flRec (f : FlightM) : RecM := (keyB 102 f.id, flightB f)
def pxRec (p : PaxM) : RecM := (keyB 112 p.id, paxB p)
def recs (s : StateM) : List RecM := s.eqs.map eqRec ++ s.fls.map flRec ++ s.pxs.map pxRec
theorem opC_len (r : RecM) : (opC r).length = 3 := rfl
theorem RSl.mem {β : Type} {sz : Nat} {R : CellR β} {W : World} {v : Value} {xs : List β} (h : RSl sz R W [v] xs) {x : β} (hx : x ∈ xs) : ∃ cs, R W cs x := by
  obtain ⟨a, cap, -, -, -, h4⟩ := h.ex
  obtain ⟨i, hi, rfl⟩ := List.mem_iff_getElem.1 hx
  obtain ⟨b, off, cs, -, -, -, h8⟩ := h4 i hi
  exact ⟨cs, h8⟩
theorem recs_succ {α : Type} (pre : List RecM) (l : List α) (f : α → RecM) (k : Nat) (hk : k < l.length) : (pre ++ (l.take (k + 1)).map f).flatMap opC = (pre ++ (l.take k).map f).flatMap opC ++ opC (f l[k]) := by
  rw [List.take_succ_eq_append_getElem hk, List.map_append, ← List.append_assoc, List.flatMap_append]; simp
set_option maxHeartbeats 8000000 in
theorem All_spec {w : World} {s : StateM} {a b c : Option Addr} {ca cb cc : Nat} (hs : StateAt w s a b c ca cb cc) :
    Cl Tryd.prog f_rows_All [.agg ⟨stV s a b c ca cb cc⟩] w fun v w' => (¬ InForm s ∧ v = .tuple ⟨[.slice none 0 0, .int .i64 36]⟩ ∧ St w [] [] w') ∨
      (InForm s ∧ ∃ a' c' L, v = .tuple ⟨[.slice a' (recs s).length c', .int .i64 0]⟩ ∧ Vec T_api_Op 3 a' (recs s).length c' ((recs s).flatMap opC) L ∧ St w [] L w') := by
  have hS := St.start w
  have hbulk := hs.bulk
  have hge := sum_ge s.eqs
  unfold stV
  refine en_rows_All rfl ?_
  repeat (first | refine SemW.run tblOk ?_ | refine IntG.nw (by omega) ?_ | refine IntG.nu8 (by omega) ?_ | refine IntG.nu32 (by omega) ?_ | refine IntG.nu64 (by omega) ?_ | refine IntG.wr' rfl ?_ | refine Chk.mk (by omega) ?_ | (refine BrG.id ?_; first | with_reducible refine BrG.t ?_ | with_reducible refine BrG.f ?_ | with_reducible refine BrG.notG ?_ | with_reducible refine BrG.nn ?_ | with_reducible refine BrG.ns ?_ | refine BrG.pos (by omega) ?_ | refine BrG.neg (by omega) ?_ | with_reducible refine BrG.pos rfl ?_ | refine BrG.pos (by assumption) ?_ | refine BrG.neg (by assumption) ?_ | refine BrG.pos (by decide) ?_ | refine BrG.neg (by decide) ?_) | refine Chk.mk (ptr_ok tblOk rfl rfl) ?_ | refine Chk.mk (by decide) ?_)
  refine hS.al ?_
  intro b1 w1 _ hS
  repeat (first | refine SemW.run tblOk ?_ | refine IntG.nw (by omega) ?_ | refine IntG.nu8 (by omega) ?_ | refine IntG.nu32 (by omega) ?_ | refine IntG.nu64 (by omega) ?_ | refine IntG.wr' rfl ?_ | refine Chk.mk (by omega) ?_ | (refine BrG.id ?_; first | with_reducible refine BrG.t ?_ | with_reducible refine BrG.f ?_ | with_reducible refine BrG.notG ?_ | with_reducible refine BrG.nn ?_ | with_reducible refine BrG.ns ?_ | refine BrG.pos (by omega) ?_ | refine BrG.neg (by omega) ?_ | with_reducible refine BrG.pos rfl ?_ | refine BrG.pos (by assumption) ?_ | refine BrG.neg (by assumption) ?_ | refine BrG.pos (by decide) ?_ | refine BrG.neg (by decide) ?_) | refine Chk.mk (ptr_ok tblOk rfl rfl) ?_ | refine Chk.mk (by decide) ?_ | refine hS.ld rfl ?_ | refine hS.ldn rfl ?_ | (refine hS.st rfl rfl ?_; intro _ hS))
  rename_i w2
  refine Cl.mono (inForm_spec (hs.keep hS)) ?_
  rintro _ w3 ⟨⟨bv, rfl, hbv⟩, hS'⟩
  have hS := hS.call0 hS'
  cases bv with
  | false =>
    repeat (first | refine SemW.run tblOk ?_ | refine IntG.nw (by omega) ?_ | refine IntG.nu8 (by omega) ?_ | refine IntG.nu32 (by omega) ?_ | refine IntG.nu64 (by omega) ?_ | refine IntG.wr' rfl ?_ | refine Chk.mk (by omega) ?_ | (refine BrG.id ?_; first | with_reducible refine BrG.t ?_ | with_reducible refine BrG.f ?_ | with_reducible refine BrG.notG ?_ | with_reducible refine BrG.nn ?_ | with_reducible refine BrG.ns ?_ | refine BrG.pos (by omega) ?_ | refine BrG.neg (by omega) ?_ | with_reducible refine BrG.pos rfl ?_ | refine BrG.pos (by assumption) ?_ | refine BrG.neg (by assumption) ?_ | refine BrG.pos (by decide) ?_ | refine BrG.neg (by decide) ?_) | refine Chk.mk (ptr_ok tblOk rfl rfl) ?_ | refine Chk.mk (by decide) ?_ | refine hS.ld rfl ?_ | refine hS.ldn rfl ?_ | (refine hS.st rfl rfl ?_; intro _ hS))
    exact .inl ⟨fun h => (by have := hbv.2 h; cases this), rfl, hS.nil⟩
  | true =>
    have hIn := hbv.1 rfl
    have hS : St w [] [(b1, .cells ⟨stV s a b c ca cb cc⟩ T_api_State (0, 0))] w3 := hS
    have hS0 : St w [] ([] ++ [(b1, .cells ⟨stV s a b c ca cb cc⟩ T_api_State (0, 0))]) w3 := hS
    have hv0 : Vec T_api_Op 3 none 0 0 [] [] := Vec.nil
    unfold stV at hS
    repeat (first | refine SemW.run tblOk ?_ | refine IntG.nw (by omega) ?_ | refine IntG.nu8 (by omega) ?_ | refine IntG.nu32 (by omega) ?_ | refine IntG.nu64 (by omega) ?_ | refine IntG.wr' rfl ?_ | refine Chk.mk (by omega) ?_ | (refine BrG.id ?_; first | with_reducible refine BrG.t ?_ | with_reducible refine BrG.f ?_ | with_reducible refine BrG.notG ?_ | with_reducible refine BrG.nn ?_ | with_reducible refine BrG.ns ?_ | refine BrG.pos (by omega) ?_ | refine BrG.neg (by omega) ?_ | with_reducible refine BrG.pos rfl ?_ | refine BrG.pos (by assumption) ?_ | refine BrG.neg (by assumption) ?_ | refine BrG.pos (by decide) ?_ | refine BrG.neg (by decide) ?_) | refine Chk.mk (ptr_ok tblOk rfl rfl) ?_ | refine Chk.mk (by decide) ?_ | refine hS.ld rfl ?_ | refine hS.ldn rfl ?_ | (refine hS.st rfl rfl ?_; intro _ hS))
    obtain ⟨pre1, hp1⟩ : ∃ pre : List RecM, pre = [] := ⟨_, rfl⟩
    have hl1 : pre1.length = 0 := by rw [hp1]; rfl
    obtain ⟨pre2, hp2⟩ : ∃ pre : List RecM, pre = s.eqs.map eqRec := ⟨_, rfl⟩
    have hl2 : pre2.length = s.eqs.length := by rw [hp2]; simp
    obtain ⟨pre3, hp3⟩ : ∃ pre : List RecM, pre = pre2 ++ s.fls.map flRec := ⟨_, rfl⟩
    have hl3 : pre3.length = s.eqs.length + s.fls.length := by rw [hp3]; simp [hl2]
    have hv0 : Vec T_api_Op 3 none (pre1.length + 0) 0 ((pre1 ++ (s.eqs.take 0).map eqRec).flatMap opC) [] := by rw [hl1, hp1]; exact hv0
    rw [show Value.slice none 0 0 = Value.slice none (pre1.length + 0) 0 by rw [hl1]]
    refine SemW.loop (fun x : Nat × Option Addr × Nat => [(1, ptr b1), (4, .slice x.2.1 (pre1.length + x.1) x.2.2), (15, .slice a s.eqs.length ca), (16, .int .i64 s.eqs.length), (17, .int .i64 x.1)])
      (fun x w' => x.1 ≤ s.eqs.length ∧ ∃ L, Vec T_api_Op 3 x.2.1 (pre1.length + x.1) x.2.2 ((pre1 ++ (s.eqs.take x.1).map eqRec).flatMap opC) L ∧ St w [] (L ++ [(b1, .cells ⟨stV s a b c ca cb cc⟩ T_api_State (0, 0))]) w') (fun x => s.eqs.length - x.1) (0, none, 0)
      ⟨rfl, rfl, rfl, rfl, rfl, trivial⟩ ⟨Nat.zero_le _, _, by simpa using hv0, hS0⟩ ?_
    clear hS hS0 hS' hv0
    rintro ⟨k, a1, c1⟩ w4 ⟨hk, L1, hv, hS⟩
    simp only at hk hv hS ⊢
    by_cases hkl : k < s.eqs.length
    · obtain ⟨g, off, cs, hg, hR, hld⟩ := RSl.ldn hS.nil hs.eqs hkl
      have hsucc := recs_succ pre1 s.eqs eqRec k hkl
      have hat := sum_at s.eqs k hkl
      generalize s.eqs[k] = e at hR hsucc hat
      obtain ⟨v, rfl, hid, hrows⟩ := hR
      obtain ⟨a3, c3, rfl, -, -, hrows⟩ := hrows.inv
      have hok : ∀ r ∈ e.rows, r.ok := fun r hr => by obtain ⟨cs, h⟩ := hrows.mem hr; exact h.2
      subst hg
      repeat (first | refine SemW.run tblOk ?_ | refine IntG.nw (by omega) ?_ | refine IntG.nu8 (by omega) ?_ | refine IntG.nu32 (by omega) ?_ | refine IntG.nu64 (by omega) ?_ | refine IntG.wr' rfl ?_ | refine Chk.mk (by omega) ?_ | (refine BrG.id ?_; first | with_reducible refine BrG.t ?_ | with_reducible refine BrG.f ?_ | with_reducible refine BrG.notG ?_ | with_reducible refine BrG.nn ?_ | with_reducible refine BrG.ns ?_ | refine BrG.pos (by omega) ?_ | refine BrG.neg (by omega) ?_ | with_reducible refine BrG.pos rfl ?_ | refine BrG.pos (by assumption) ?_ | refine BrG.neg (by assumption) ?_ | refine BrG.pos (by decide) ?_ | refine BrG.neg (by decide) ?_) | refine Chk.mk (ptr_ok tblOk rfl rfl) ?_ | refine Chk.mk (by decide) ?_)
      refine hld _ ?_
      repeat (first | refine SemW.run tblOk ?_ | refine IntG.nw (by omega) ?_ | refine IntG.nu8 (by omega) ?_ | refine IntG.nu32 (by omega) ?_ | refine IntG.nu64 (by omega) ?_ | refine IntG.wr' rfl ?_ | refine Chk.mk (by omega) ?_ | (refine BrG.id ?_; first | with_reducible refine BrG.t ?_ | with_reducible refine BrG.f ?_ | with_reducible refine BrG.notG ?_ | with_reducible refine BrG.nn ?_ | with_reducible refine BrG.ns ?_ | refine BrG.pos (by omega) ?_ | refine BrG.neg (by omega) ?_ | with_reducible refine BrG.pos rfl ?_ | refine BrG.pos (by assumption) ?_ | refine BrG.neg (by assumption) ?_ | refine BrG.pos (by decide) ?_ | refine BrG.neg (by decide) ?_) | refine Chk.mk (ptr_ok tblOk rfl rfl) ?_ | refine Chk.mk (by decide) ?_)
      refine hS.al ?_
      intro b6 w5 _ hS
      repeat (first | refine SemW.run tblOk ?_ | refine IntG.nw (by omega) ?_ | refine IntG.nu8 (by omega) ?_ | refine IntG.nu32 (by omega) ?_ | refine IntG.nu64 (by omega) ?_ | refine IntG.wr' rfl ?_ | refine Chk.mk (by omega) ?_ | (refine BrG.id ?_; first | with_reducible refine BrG.t ?_ | with_reducible refine BrG.f ?_ | with_reducible refine BrG.notG ?_ | with_reducible refine BrG.nn ?_ | with_reducible refine BrG.ns ?_ | refine BrG.pos (by omega) ?_ | refine BrG.neg (by omega) ?_ | with_reducible refine BrG.pos rfl ?_ | refine BrG.pos (by assumption) ?_ | refine BrG.neg (by assumption) ?_ | refine BrG.pos (by decide) ?_ | refine BrG.neg (by decide) ?_) | refine Chk.mk (ptr_ok tblOk rfl rfl) ?_ | refine Chk.mk (by decide) ?_ | refine hS.ld rfl ?_ | refine hS.ldn rfl ?_ | (refine hS.st rfl rfl ?_; intro _ hS))
      rename_i w6
      have hS : St w [] ((b6, .cells ⟨[.int .i64 e.id, .slice a3 e.rows.length c3]⟩ T_api_Equip (0, 0)) :: (L1 ++ [(b1, .cells ⟨stV s (some ⟨g, off, none⟩) b c ca cb cc⟩ T_api_State (0, 0))])) w6 := hS
      refine SemW.draw tblOk mixed (fun w' => St w [] ((b6, .cells ⟨[.int .i64 e.id, .slice a3 e.rows.length c3]⟩ T_api_Equip (0, 0)) :: (L1 ++ [(b1, .cells ⟨stV s (some ⟨g, off, none⟩) b c ca cb cc⟩ T_api_State (0, 0))])) w') [8, 9] [0, 1, 2, 4, 3, 5, 6, 7, 8, 9] (by kernel_rfl) hS.drew ?_
      have hS := hS.drew
      generalize w6.drew = w6 at hS
      repeat (first | refine SemW.run tblOk ?_ | refine IntG.nw (by omega) ?_ | refine IntG.nu8 (by omega) ?_ | refine IntG.nu32 (by omega) ?_ | refine IntG.nu64 (by omega) ?_ | refine IntG.wr' rfl ?_ | refine Chk.mk (by omega) ?_ | (refine BrG.id ?_; first | with_reducible refine BrG.t ?_ | with_reducible refine BrG.f ?_ | with_reducible refine BrG.notG ?_ | with_reducible refine BrG.nn ?_ | with_reducible refine BrG.ns ?_ | refine BrG.pos (by omega) ?_ | refine BrG.neg (by omega) ?_ | with_reducible refine BrG.pos rfl ?_ | refine BrG.pos (by assumption) ?_ | refine BrG.neg (by assumption) ?_ | refine BrG.pos (by decide) ?_ | refine BrG.neg (by decide) ?_) | refine Chk.mk (ptr_ok tblOk rfl rfl) ?_ | refine Chk.mk (by decide) ?_ | refine hS.ldC rfl ?_ | refine hS.ldnC rfl ?_)
      refine Cl.mono (rkey_spec 101 (by decide) e.id hid) ?_
      rintro _ w7 ⟨rfl, hS'⟩
      have hS := hS.call0 hS'
      refine Chk.mk hS ?_
      repeat (first | refine SemW.run tblOk ?_ | refine IntG.nw (by omega) ?_ | refine IntG.nu8 (by omega) ?_ | refine IntG.nu32 (by omega) ?_ | refine IntG.nu64 (by omega) ?_ | refine IntG.wr' rfl ?_ | refine Chk.mk (by omega) ?_ | (refine BrG.id ?_; first | with_reducible refine BrG.t ?_ | with_reducible refine BrG.f ?_ | with_reducible refine BrG.notG ?_ | with_reducible refine BrG.nn ?_ | with_reducible refine BrG.ns ?_ | refine BrG.pos (by omega) ?_ | refine BrG.neg (by omega) ?_ | with_reducible refine BrG.pos rfl ?_ | refine BrG.pos (by assumption) ?_ | refine BrG.neg (by assumption) ?_ | refine BrG.pos (by decide) ?_ | refine BrG.neg (by decide) ?_) | refine Chk.mk (ptr_ok tblOk rfl rfl) ?_ | refine Chk.mk (by decide) ?_ | refine hS.ldC rfl ?_ | refine hS.ldnC rfl ?_)
      refine Cl.mono (equip_spec e (RSl.keep hS.nil (fun _ _ h => h) hrows) hok (by omega)) ?_
      rintro _ w8 ⟨rfl, hS'⟩
      have hS := hS.call0 hS'
      refine Chk.mk hS ?_
      repeat (first | refine SemW.run tblOk ?_ | refine IntG.nw (by omega) ?_ | refine IntG.nu8 (by omega) ?_ | refine IntG.nu32 (by omega) ?_ | refine IntG.nu64 (by omega) ?_ | refine IntG.wr' rfl ?_ | refine Chk.mk (by omega) ?_ | (refine BrG.id ?_; first | with_reducible refine BrG.t ?_ | with_reducible refine BrG.f ?_ | with_reducible refine BrG.notG ?_ | with_reducible refine BrG.nn ?_ | with_reducible refine BrG.ns ?_ | refine BrG.pos (by omega) ?_ | refine BrG.neg (by omega) ?_ | with_reducible refine BrG.pos rfl ?_ | refine BrG.pos (by assumption) ?_ | refine BrG.neg (by assumption) ?_ | refine BrG.pos (by decide) ?_ | refine BrG.neg (by decide) ?_) | refine Chk.mk (ptr_ok tblOk rfl rfl) ?_ | refine Chk.mk (by decide) ?_ | refine hS.ldC rfl ?_ | refine hS.ldnC rfl ?_)
      refine hS.al ?_
      intro r w9 _ hS
      refine Chk.mk (hS.sub (List.sublist_cons_self _ _)) ?_
      repeat (first | refine SemW.run tblOk ?_ | refine IntG.nw (by omega) ?_ | refine IntG.nu8 (by omega) ?_ | refine IntG.nu32 (by omega) ?_ | refine IntG.nu64 (by omega) ?_ | refine IntG.wr' rfl ?_ | refine Chk.mk (by omega) ?_ | (refine BrG.id ?_; first | with_reducible refine BrG.t ?_ | with_reducible refine BrG.f ?_ | with_reducible refine BrG.notG ?_ | with_reducible refine BrG.nn ?_ | with_reducible refine BrG.ns ?_ | refine BrG.pos (by omega) ?_ | refine BrG.neg (by omega) ?_ | with_reducible refine BrG.pos rfl ?_ | refine BrG.pos (by assumption) ?_ | refine BrG.neg (by assumption) ?_ | refine BrG.pos (by decide) ?_ | refine BrG.neg (by decide) ?_) | refine Chk.mk (ptr_ok tblOk rfl rfl) ?_ | refine Chk.mk (by decide) ?_ | refine hS.ldC rfl ?_ | refine hS.ldnC rfl ?_)
      refine St.app (sz := 3) (m := 1) tblOk rfl rfl rfl rfl hS hv (news := opC (eqRec e)) rfl (by have := hS.arr (b := r) (T' := []) (by simp); exact this) rfl (by show (_ + _) * 40 ≤ _; omega) (by omega) ?_
      intro a4 c4 L4 w10 hv hS
      rw [← hsucc] at hv
      repeat (first | refine SemW.run tblOk ?_ | refine IntG.nw (by omega) ?_ | refine IntG.nu8 (by omega) ?_ | refine IntG.nu32 (by omega) ?_ | refine IntG.nu64 (by omega) ?_ | refine IntG.wr' rfl ?_ | refine Chk.mk (by omega) ?_ | (refine BrG.id ?_; first | with_reducible refine BrG.t ?_ | with_reducible refine BrG.f ?_ | with_reducible refine BrG.notG ?_ | with_reducible refine BrG.nn ?_ | with_reducible refine BrG.ns ?_ | refine BrG.pos (by omega) ?_ | refine BrG.neg (by omega) ?_ | with_reducible refine BrG.pos rfl ?_ | refine BrG.pos (by assumption) ?_ | refine BrG.neg (by assumption) ?_ | refine BrG.pos (by decide) ?_ | refine BrG.neg (by decide) ?_) | refine Chk.mk (ptr_ok tblOk rfl rfl) ?_ | refine Chk.mk (by decide) ?_)
      exact ⟨(k + 1, a4, c4), ⟨rfl, rfl, rfl, rfl, rfl, trivial⟩, ⟨by simp only; omega, L4, hv, hS.sub ((List.sublist_cons_self _ _).trans (List.sublist_cons_self _ _))⟩, by simp only; omega⟩
    · have hke : k = s.eqs.length := by omega
      subst hke
      rw [List.take_length] at hv
      have hS0 := hS
      unfold stV at hS
      have hv0 := hv
      have hS' := hS
      rw [hp1, List.nil_append, ← hp2] at hv0
      have en : pre1.length + s.eqs.length = pre2.length + 0 := by omega
      rw [← hp1, en] at hv0
      rw [en]
      repeat (first | refine SemW.run tblOk ?_ | refine IntG.nw (by omega) ?_ | refine IntG.nu8 (by omega) ?_ | refine IntG.nu32 (by omega) ?_ | refine IntG.nu64 (by omega) ?_ | refine IntG.wr' rfl ?_ | refine Chk.mk (by omega) ?_ | (refine BrG.id ?_; first | with_reducible refine BrG.t ?_ | with_reducible refine BrG.f ?_ | with_reducible refine BrG.notG ?_ | with_reducible refine BrG.nn ?_ | with_reducible refine BrG.ns ?_ | refine BrG.pos (by omega) ?_ | refine BrG.neg (by omega) ?_ | with_reducible refine BrG.pos rfl ?_ | refine BrG.pos (by assumption) ?_ | refine BrG.neg (by assumption) ?_ | refine BrG.pos (by decide) ?_ | refine BrG.neg (by decide) ?_) | refine Chk.mk (ptr_ok tblOk rfl rfl) ?_ | refine Chk.mk (by decide) ?_ | refine hS.ld rfl ?_ | refine hS.ldn rfl ?_ | (refine hS.st rfl rfl ?_; intro _ hS))
      have hv0 : Vec T_api_Op 3 a1 (pre2.length + 0) c1 ((pre2 ++ (s.fls.take 0).map flRec).flatMap opC) L1 := by simpa using hv0
      refine SemW.loop (fun x : Nat × Option Addr × Nat => [(1, ptr b1), (4, .slice x.2.1 (pre2.length + x.1) x.2.2), (32, .slice b s.fls.length cb), (33, .int .i64 s.fls.length), (34, .int .i64 x.1)])
        (fun x w' => x.1 ≤ s.fls.length ∧ ∃ L, Vec T_api_Op 3 x.2.1 (pre2.length + x.1) x.2.2 ((pre2 ++ (s.fls.take x.1).map flRec).flatMap opC) L ∧ St w [] (L ++ [(b1, .cells ⟨stV s a b c ca cb cc⟩ T_api_State (0, 0))]) w') (fun x => s.fls.length - x.1) (0, a1, c1)
        ⟨rfl, rfl, rfl, rfl, rfl, trivial⟩ ⟨Nat.zero_le _, _, by simpa using hv0, hS0⟩ ?_
      clear hS hS0 hS' hv0
      rintro ⟨k, a1, c1⟩ w4 ⟨hk, L1, hv, hS⟩
      simp only at hk hv hS ⊢
      by_cases hkl : k < s.fls.length
      · obtain ⟨g, off, cs, hg, hR, hld⟩ := RSl.ldn hS.nil hs.fls hkl
        have hsucc := recs_succ pre2 s.fls flRec k hkl
        generalize s.fls[k] = e at hR hsucc
        obtain ⟨rfl, hok⟩ := hR
        subst hg
        repeat (first | refine SemW.run tblOk ?_ | refine IntG.nw (by omega) ?_ | refine IntG.nu8 (by omega) ?_ | refine IntG.nu32 (by omega) ?_ | refine IntG.nu64 (by omega) ?_ | refine IntG.wr' rfl ?_ | refine Chk.mk (by omega) ?_ | (refine BrG.id ?_; first | with_reducible refine BrG.t ?_ | with_reducible refine BrG.f ?_ | with_reducible refine BrG.notG ?_ | with_reducible refine BrG.nn ?_ | with_reducible refine BrG.ns ?_ | refine BrG.pos (by omega) ?_ | refine BrG.neg (by omega) ?_ | with_reducible refine BrG.pos rfl ?_ | refine BrG.pos (by assumption) ?_ | refine BrG.neg (by assumption) ?_ | refine BrG.pos (by decide) ?_ | refine BrG.neg (by decide) ?_) | refine Chk.mk (ptr_ok tblOk rfl rfl) ?_ | refine Chk.mk (by decide) ?_)
        refine hld _ ?_
        repeat (first | refine SemW.run tblOk ?_ | refine IntG.nw (by omega) ?_ | refine IntG.nu8 (by omega) ?_ | refine IntG.nu32 (by omega) ?_ | refine IntG.nu64 (by omega) ?_ | refine IntG.wr' rfl ?_ | refine Chk.mk (by omega) ?_ | (refine BrG.id ?_; first | with_reducible refine BrG.t ?_ | with_reducible refine BrG.f ?_ | with_reducible refine BrG.notG ?_ | with_reducible refine BrG.nn ?_ | with_reducible refine BrG.ns ?_ | refine BrG.pos (by omega) ?_ | refine BrG.neg (by omega) ?_ | with_reducible refine BrG.pos rfl ?_ | refine BrG.pos (by assumption) ?_ | refine BrG.neg (by assumption) ?_ | refine BrG.pos (by decide) ?_ | refine BrG.neg (by decide) ?_) | refine Chk.mk (ptr_ok tblOk rfl rfl) ?_ | refine Chk.mk (by decide) ?_)
        refine hS.al ?_
        intro b6 w5 _ hS
        repeat (first | refine SemW.run tblOk ?_ | refine IntG.nw (by omega) ?_ | refine IntG.nu8 (by omega) ?_ | refine IntG.nu32 (by omega) ?_ | refine IntG.nu64 (by omega) ?_ | refine IntG.wr' rfl ?_ | refine Chk.mk (by omega) ?_ | (refine BrG.id ?_; first | with_reducible refine BrG.t ?_ | with_reducible refine BrG.f ?_ | with_reducible refine BrG.notG ?_ | with_reducible refine BrG.nn ?_ | with_reducible refine BrG.ns ?_ | refine BrG.pos (by omega) ?_ | refine BrG.neg (by omega) ?_ | with_reducible refine BrG.pos rfl ?_ | refine BrG.pos (by assumption) ?_ | refine BrG.neg (by assumption) ?_ | refine BrG.pos (by decide) ?_ | refine BrG.neg (by decide) ?_) | refine Chk.mk (ptr_ok tblOk rfl rfl) ?_ | refine Chk.mk (by decide) ?_ | refine hS.ld rfl ?_ | refine hS.ldn rfl ?_ | (refine hS.st rfl rfl ?_; intro _ hS))
        rename_i w6
        have hS : St w [] ((b6, .cells ⟨flC e⟩ T_api_Flight (0, 0)) :: (L1 ++ [(b1, .cells ⟨stV s a (some ⟨g, off, none⟩) c ca cb cc⟩ T_api_State (0, 0))])) w6 := hS
        refine SemW.draw tblOk mixed (fun w' => St w [] ((b6, .cells ⟨flC e⟩ T_api_Flight (0, 0)) :: (L1 ++ [(b1, .cells ⟨stV s a (some ⟨g, off, none⟩) c ca cb cc⟩ T_api_State (0, 0))])) w') [8, 9] [0, 1, 2, 4, 3, 5, 6, 7, 8, 9] (by kernel_rfl) hS.drew ?_
        have hS := hS.drew
        generalize w6.drew = w6 at hS
        repeat (first | refine SemW.run tblOk ?_ | refine IntG.nw (by omega) ?_ | refine IntG.nu8 (by omega) ?_ | refine IntG.nu32 (by omega) ?_ | refine IntG.nu64 (by omega) ?_ | refine IntG.wr' rfl ?_ | refine Chk.mk (by omega) ?_ | (refine BrG.id ?_; first | with_reducible refine BrG.t ?_ | with_reducible refine BrG.f ?_ | with_reducible refine BrG.notG ?_ | with_reducible refine BrG.nn ?_ | with_reducible refine BrG.ns ?_ | refine BrG.pos (by omega) ?_ | refine BrG.neg (by omega) ?_ | with_reducible refine BrG.pos rfl ?_ | refine BrG.pos (by assumption) ?_ | refine BrG.neg (by assumption) ?_ | refine BrG.pos (by decide) ?_ | refine BrG.neg (by decide) ?_) | refine Chk.mk (ptr_ok tblOk rfl rfl) ?_ | refine Chk.mk (by decide) ?_ | refine hS.ldC rfl ?_ | refine hS.ldnC rfl ?_)
        refine Cl.mono (rkey_spec 102 (by decide) e.id hok.id) ?_
        rintro _ w7 ⟨rfl, hS'⟩
        have hS := hS.call0 hS'
        refine Chk.mk hS ?_
        repeat (first | refine SemW.run tblOk ?_ | refine IntG.nw (by omega) ?_ | refine IntG.nu8 (by omega) ?_ | refine IntG.nu32 (by omega) ?_ | refine IntG.nu64 (by omega) ?_ | refine IntG.wr' rfl ?_ | refine Chk.mk (by omega) ?_ | (refine BrG.id ?_; first | with_reducible refine BrG.t ?_ | with_reducible refine BrG.f ?_ | with_reducible refine BrG.notG ?_ | with_reducible refine BrG.nn ?_ | with_reducible refine BrG.ns ?_ | refine BrG.pos (by omega) ?_ | refine BrG.neg (by omega) ?_ | with_reducible refine BrG.pos rfl ?_ | refine BrG.pos (by assumption) ?_ | refine BrG.neg (by assumption) ?_ | refine BrG.pos (by decide) ?_ | refine BrG.neg (by decide) ?_) | refine Chk.mk (ptr_ok tblOk rfl rfl) ?_ | refine Chk.mk (by decide) ?_ | refine hS.ldC rfl ?_ | refine hS.ldnC rfl ?_)
        refine Cl.mono (flight_spec e hok) ?_
        rintro _ w8 ⟨rfl, hS'⟩
        have hS := hS.call0 hS'
        refine Chk.mk hS ?_
        repeat (first | refine SemW.run tblOk ?_ | refine IntG.nw (by omega) ?_ | refine IntG.nu8 (by omega) ?_ | refine IntG.nu32 (by omega) ?_ | refine IntG.nu64 (by omega) ?_ | refine IntG.wr' rfl ?_ | refine Chk.mk (by omega) ?_ | (refine BrG.id ?_; first | with_reducible refine BrG.t ?_ | with_reducible refine BrG.f ?_ | with_reducible refine BrG.notG ?_ | with_reducible refine BrG.nn ?_ | with_reducible refine BrG.ns ?_ | refine BrG.pos (by omega) ?_ | refine BrG.neg (by omega) ?_ | with_reducible refine BrG.pos rfl ?_ | refine BrG.pos (by assumption) ?_ | refine BrG.neg (by assumption) ?_ | refine BrG.pos (by decide) ?_ | refine BrG.neg (by decide) ?_) | refine Chk.mk (ptr_ok tblOk rfl rfl) ?_ | refine Chk.mk (by decide) ?_ | refine hS.ldC rfl ?_ | refine hS.ldnC rfl ?_)
        refine hS.al ?_
        intro r w9 _ hS
        refine Chk.mk (hS.sub (List.sublist_cons_self _ _)) ?_
        repeat (first | refine SemW.run tblOk ?_ | refine IntG.nw (by omega) ?_ | refine IntG.nu8 (by omega) ?_ | refine IntG.nu32 (by omega) ?_ | refine IntG.nu64 (by omega) ?_ | refine IntG.wr' rfl ?_ | refine Chk.mk (by omega) ?_ | (refine BrG.id ?_; first | with_reducible refine BrG.t ?_ | with_reducible refine BrG.f ?_ | with_reducible refine BrG.notG ?_ | with_reducible refine BrG.nn ?_ | with_reducible refine BrG.ns ?_ | refine BrG.pos (by omega) ?_ | refine BrG.neg (by omega) ?_ | with_reducible refine BrG.pos rfl ?_ | refine BrG.pos (by assumption) ?_ | refine BrG.neg (by assumption) ?_ | refine BrG.pos (by decide) ?_ | refine BrG.neg (by decide) ?_) | refine Chk.mk (ptr_ok tblOk rfl rfl) ?_ | refine Chk.mk (by decide) ?_ | refine hS.ldC rfl ?_ | refine hS.ldnC rfl ?_)
        refine St.app (sz := 3) (m := 1) tblOk rfl rfl rfl rfl hS hv (news := opC (flRec e)) rfl (by have := hS.arr (b := r) (T' := []) (by simp); exact this) rfl (by show (_ + _) * 40 ≤ _; omega) (by omega) ?_
        intro a4 c4 L4 w10 hv hS
        rw [← hsucc] at hv
        repeat (first | refine SemW.run tblOk ?_ | refine IntG.nw (by omega) ?_ | refine IntG.nu8 (by omega) ?_ | refine IntG.nu32 (by omega) ?_ | refine IntG.nu64 (by omega) ?_ | refine IntG.wr' rfl ?_ | refine Chk.mk (by omega) ?_ | (refine BrG.id ?_; first | with_reducible refine BrG.t ?_ | with_reducible refine BrG.f ?_ | with_reducible refine BrG.notG ?_ | with_reducible refine BrG.nn ?_ | with_reducible refine BrG.ns ?_ | refine BrG.pos (by omega) ?_ | refine BrG.neg (by omega) ?_ | with_reducible refine BrG.pos rfl ?_ | refine BrG.pos (by assumption) ?_ | refine BrG.neg (by assumption) ?_ | refine BrG.pos (by decide) ?_ | refine BrG.neg (by decide) ?_) | refine Chk.mk (ptr_ok tblOk rfl rfl) ?_ | refine Chk.mk (by decide) ?_)
        exact ⟨(k + 1, a4, c4), ⟨rfl, rfl, rfl, rfl, rfl, trivial⟩, ⟨by simp only; omega, L4, hv, hS.sub ((List.sublist_cons_self _ _).trans (List.sublist_cons_self _ _))⟩, by simp only; omega⟩
      · have hke : k = s.fls.length := by omega
        subst hke
        rw [List.take_length] at hv
        have hS0 := hS
        unfold stV at hS
        have hv0 := hv
        have hS' := hS
        rw [← hp3] at hv0
        have en : pre2.length + s.fls.length = pre3.length + 0 := by omega
        rw [en] at hv0
        rw [en]
        repeat (first | refine SemW.run tblOk ?_ | refine IntG.nw (by omega) ?_ | refine IntG.nu8 (by omega) ?_ | refine IntG.nu32 (by omega) ?_ | refine IntG.nu64 (by omega) ?_ | refine IntG.wr' rfl ?_ | refine Chk.mk (by omega) ?_ | (refine BrG.id ?_; first | with_reducible refine BrG.t ?_ | with_reducible refine BrG.f ?_ | with_reducible refine BrG.notG ?_ | with_reducible refine BrG.nn ?_ | with_reducible refine BrG.ns ?_ | refine BrG.pos (by omega) ?_ | refine BrG.neg (by omega) ?_ | with_reducible refine BrG.pos rfl ?_ | refine BrG.pos (by assumption) ?_ | refine BrG.neg (by assumption) ?_ | refine BrG.pos (by decide) ?_ | refine BrG.neg (by decide) ?_) | refine Chk.mk (ptr_ok tblOk rfl rfl) ?_ | refine Chk.mk (by decide) ?_ | refine hS.ld rfl ?_ | refine hS.ldn rfl ?_ | (refine hS.st rfl rfl ?_; intro _ hS))
        have hv0 : Vec T_api_Op 3 a1 (pre3.length + 0) c1 ((pre3 ++ (s.pxs.take 0).map pxRec).flatMap opC) L1 := by simpa using hv0
        refine SemW.loop (fun x : Nat × Option Addr × Nat => [(1, ptr b1), (4, .slice x.2.1 (pre3.length + x.1) x.2.2), (49, .slice c s.pxs.length cc), (50, .int .i64 s.pxs.length), (51, .int .i64 x.1)])
          (fun x w' => x.1 ≤ s.pxs.length ∧ ∃ L, Vec T_api_Op 3 x.2.1 (pre3.length + x.1) x.2.2 ((pre3 ++ (s.pxs.take x.1).map pxRec).flatMap opC) L ∧ St w [] (L ++ [(b1, .cells ⟨stV s a b c ca cb cc⟩ T_api_State (0, 0))]) w') (fun x => s.pxs.length - x.1) (0, a1, c1)
          ⟨rfl, rfl, rfl, rfl, rfl, trivial⟩ ⟨Nat.zero_le _, _, by simpa using hv0, hS0⟩ ?_
        clear hS hS0 hS' hv0
        rintro ⟨k, a1, c1⟩ w4 ⟨hk, L1, hv, hS⟩
        simp only at hk hv hS ⊢
        by_cases hkl : k < s.pxs.length
        · obtain ⟨g, off, cs, hg, hR, hld⟩ := RSl.ldn hS.nil hs.pxs hkl
          have hsucc := recs_succ pre3 s.pxs pxRec k hkl
          generalize s.pxs[k] = e at hR hsucc
          obtain ⟨rfl, hok⟩ := hR
          subst hg
          repeat (first | refine SemW.run tblOk ?_ | refine IntG.nw (by omega) ?_ | refine IntG.nu8 (by omega) ?_ | refine IntG.nu32 (by omega) ?_ | refine IntG.nu64 (by omega) ?_ | refine IntG.wr' rfl ?_ | refine Chk.mk (by omega) ?_ | (refine BrG.id ?_; first | with_reducible refine BrG.t ?_ | with_reducible refine BrG.f ?_ | with_reducible refine BrG.notG ?_ | with_reducible refine BrG.nn ?_ | with_reducible refine BrG.ns ?_ | refine BrG.pos (by omega) ?_ | refine BrG.neg (by omega) ?_ | with_reducible refine BrG.pos rfl ?_ | refine BrG.pos (by assumption) ?_ | refine BrG.neg (by assumption) ?_ | refine BrG.pos (by decide) ?_ | refine BrG.neg (by decide) ?_) | refine Chk.mk (ptr_ok tblOk rfl rfl) ?_ | refine Chk.mk (by decide) ?_)
          refine hld _ ?_
          repeat (first | refine SemW.run tblOk ?_ | refine IntG.nw (by omega) ?_ | refine IntG.nu8 (by omega) ?_ | refine IntG.nu32 (by omega) ?_ | refine IntG.nu64 (by omega) ?_ | refine IntG.wr' rfl ?_ | refine Chk.mk (by omega) ?_ | (refine BrG.id ?_; first | with_reducible refine BrG.t ?_ | with_reducible refine BrG.f ?_ | with_reducible refine BrG.notG ?_ | with_reducible refine BrG.nn ?_ | with_reducible refine BrG.ns ?_ | refine BrG.pos (by omega) ?_ | refine BrG.neg (by omega) ?_ | with_reducible refine BrG.pos rfl ?_ | refine BrG.pos (by assumption) ?_ | refine BrG.neg (by assumption) ?_ | refine BrG.pos (by decide) ?_ | refine BrG.neg (by decide) ?_) | refine Chk.mk (ptr_ok tblOk rfl rfl) ?_ | refine Chk.mk (by decide) ?_)
          refine hS.al ?_
          intro b6 w5 _ hS
          repeat (first | refine SemW.run tblOk ?_ | refine IntG.nw (by omega) ?_ | refine IntG.nu8 (by omega) ?_ | refine IntG.nu32 (by omega) ?_ | refine IntG.nu64 (by omega) ?_ | refine IntG.wr' rfl ?_ | refine Chk.mk (by omega) ?_ | (refine BrG.id ?_; first | with_reducible refine BrG.t ?_ | with_reducible refine BrG.f ?_ | with_reducible refine BrG.notG ?_ | with_reducible refine BrG.nn ?_ | with_reducible refine BrG.ns ?_ | refine BrG.pos (by omega) ?_ | refine BrG.neg (by omega) ?_ | with_reducible refine BrG.pos rfl ?_ | refine BrG.pos (by assumption) ?_ | refine BrG.neg (by assumption) ?_ | refine BrG.pos (by decide) ?_ | refine BrG.neg (by decide) ?_) | refine Chk.mk (ptr_ok tblOk rfl rfl) ?_ | refine Chk.mk (by decide) ?_ | refine hS.ld rfl ?_ | refine hS.ldn rfl ?_ | (refine hS.st rfl rfl ?_; intro _ hS))
          rename_i w6
          have hS : St w [] ((b6, .cells ⟨paxC e⟩ T_api_Pax (0, 0)) :: (L1 ++ [(b1, .cells ⟨stV s a b (some ⟨g, off, none⟩) ca cb cc⟩ T_api_State (0, 0))])) w6 := hS
          refine SemW.draw tblOk mixed (fun w' => St w [] ((b6, .cells ⟨paxC e⟩ T_api_Pax (0, 0)) :: (L1 ++ [(b1, .cells ⟨stV s a b (some ⟨g, off, none⟩) ca cb cc⟩ T_api_State (0, 0))])) w') [8, 9] [0, 1, 2, 4, 3, 5, 6, 7, 8, 9] (by kernel_rfl) hS.drew ?_
          have hS := hS.drew
          generalize w6.drew = w6 at hS
          repeat (first | refine SemW.run tblOk ?_ | refine IntG.nw (by omega) ?_ | refine IntG.nu8 (by omega) ?_ | refine IntG.nu32 (by omega) ?_ | refine IntG.nu64 (by omega) ?_ | refine IntG.wr' rfl ?_ | refine Chk.mk (by omega) ?_ | (refine BrG.id ?_; first | with_reducible refine BrG.t ?_ | with_reducible refine BrG.f ?_ | with_reducible refine BrG.notG ?_ | with_reducible refine BrG.nn ?_ | with_reducible refine BrG.ns ?_ | refine BrG.pos (by omega) ?_ | refine BrG.neg (by omega) ?_ | with_reducible refine BrG.pos rfl ?_ | refine BrG.pos (by assumption) ?_ | refine BrG.neg (by assumption) ?_ | refine BrG.pos (by decide) ?_ | refine BrG.neg (by decide) ?_) | refine Chk.mk (ptr_ok tblOk rfl rfl) ?_ | refine Chk.mk (by decide) ?_ | refine hS.ldC rfl ?_ | refine hS.ldnC rfl ?_)
          refine Cl.mono (rkey_spec 112 (by decide) e.id hok.id) ?_
          rintro _ w7 ⟨rfl, hS'⟩
          have hS := hS.call0 hS'
          refine Chk.mk hS ?_
          repeat (first | refine SemW.run tblOk ?_ | refine IntG.nw (by omega) ?_ | refine IntG.nu8 (by omega) ?_ | refine IntG.nu32 (by omega) ?_ | refine IntG.nu64 (by omega) ?_ | refine IntG.wr' rfl ?_ | refine Chk.mk (by omega) ?_ | (refine BrG.id ?_; first | with_reducible refine BrG.t ?_ | with_reducible refine BrG.f ?_ | with_reducible refine BrG.notG ?_ | with_reducible refine BrG.nn ?_ | with_reducible refine BrG.ns ?_ | refine BrG.pos (by omega) ?_ | refine BrG.neg (by omega) ?_ | with_reducible refine BrG.pos rfl ?_ | refine BrG.pos (by assumption) ?_ | refine BrG.neg (by assumption) ?_ | refine BrG.pos (by decide) ?_ | refine BrG.neg (by decide) ?_) | refine Chk.mk (ptr_ok tblOk rfl rfl) ?_ | refine Chk.mk (by decide) ?_ | refine hS.ldC rfl ?_ | refine hS.ldnC rfl ?_)
          refine Cl.mono (pax_spec e hok) ?_
          rintro _ w8 ⟨rfl, hS'⟩
          have hS := hS.call0 hS'
          refine Chk.mk hS ?_
          repeat (first | refine SemW.run tblOk ?_ | refine IntG.nw (by omega) ?_ | refine IntG.nu8 (by omega) ?_ | refine IntG.nu32 (by omega) ?_ | refine IntG.nu64 (by omega) ?_ | refine IntG.wr' rfl ?_ | refine Chk.mk (by omega) ?_ | (refine BrG.id ?_; first | with_reducible refine BrG.t ?_ | with_reducible refine BrG.f ?_ | with_reducible refine BrG.notG ?_ | with_reducible refine BrG.nn ?_ | with_reducible refine BrG.ns ?_ | refine BrG.pos (by omega) ?_ | refine BrG.neg (by omega) ?_ | with_reducible refine BrG.pos rfl ?_ | refine BrG.pos (by assumption) ?_ | refine BrG.neg (by assumption) ?_ | refine BrG.pos (by decide) ?_ | refine BrG.neg (by decide) ?_) | refine Chk.mk (ptr_ok tblOk rfl rfl) ?_ | refine Chk.mk (by decide) ?_ | refine hS.ldC rfl ?_ | refine hS.ldnC rfl ?_)
          refine hS.al ?_
          intro r w9 _ hS
          refine Chk.mk (hS.sub (List.sublist_cons_self _ _)) ?_
          repeat (first | refine SemW.run tblOk ?_ | refine IntG.nw (by omega) ?_ | refine IntG.nu8 (by omega) ?_ | refine IntG.nu32 (by omega) ?_ | refine IntG.nu64 (by omega) ?_ | refine IntG.wr' rfl ?_ | refine Chk.mk (by omega) ?_ | (refine BrG.id ?_; first | with_reducible refine BrG.t ?_ | with_reducible refine BrG.f ?_ | with_reducible refine BrG.notG ?_ | with_reducible refine BrG.nn ?_ | with_reducible refine BrG.ns ?_ | refine BrG.pos (by omega) ?_ | refine BrG.neg (by omega) ?_ | with_reducible refine BrG.pos rfl ?_ | refine BrG.pos (by assumption) ?_ | refine BrG.neg (by assumption) ?_ | refine BrG.pos (by decide) ?_ | refine BrG.neg (by decide) ?_) | refine Chk.mk (ptr_ok tblOk rfl rfl) ?_ | refine Chk.mk (by decide) ?_ | refine hS.ldC rfl ?_ | refine hS.ldnC rfl ?_)
          refine St.app (sz := 3) (m := 1) tblOk rfl rfl rfl rfl hS hv (news := opC (pxRec e)) rfl (by have := hS.arr (b := r) (T' := []) (by simp); exact this) rfl (by show (_ + _) * 40 ≤ _; omega) (by omega) ?_
          intro a4 c4 L4 w10 hv hS
          rw [← hsucc] at hv
          repeat (first | refine SemW.run tblOk ?_ | refine IntG.nw (by omega) ?_ | refine IntG.nu8 (by omega) ?_ | refine IntG.nu32 (by omega) ?_ | refine IntG.nu64 (by omega) ?_ | refine IntG.wr' rfl ?_ | refine Chk.mk (by omega) ?_ | (refine BrG.id ?_; first | with_reducible refine BrG.t ?_ | with_reducible refine BrG.f ?_ | with_reducible refine BrG.notG ?_ | with_reducible refine BrG.nn ?_ | with_reducible refine BrG.ns ?_ | refine BrG.pos (by omega) ?_ | refine BrG.neg (by omega) ?_ | with_reducible refine BrG.pos rfl ?_ | refine BrG.pos (by assumption) ?_ | refine BrG.neg (by assumption) ?_ | refine BrG.pos (by decide) ?_ | refine BrG.neg (by decide) ?_) | refine Chk.mk (ptr_ok tblOk rfl rfl) ?_ | refine Chk.mk (by decide) ?_)
          exact ⟨(k + 1, a4, c4), ⟨rfl, rfl, rfl, rfl, rfl, trivial⟩, ⟨by simp only; omega, L4, hv, hS.sub ((List.sublist_cons_self _ _).trans (List.sublist_cons_self _ _))⟩, by simp only; omega⟩
        · have hke : k = s.pxs.length := by omega
          subst hke
          rw [List.take_length] at hv
          have hS0 := hS
          unfold stV at hS
          have hv0 := hv
          have hS' := hS
          have er : pre3 ++ s.pxs.map pxRec = recs s := by rw [hp3, hp2]; rfl
          have en : pre3.length + s.pxs.length = (recs s).length := by rw [← er]; simp
          rw [er, en] at hv0
          rw [en]
          repeat (first | refine SemW.run tblOk ?_ | refine IntG.nw (by omega) ?_ | refine IntG.nu8 (by omega) ?_ | refine IntG.nu32 (by omega) ?_ | refine IntG.nu64 (by omega) ?_ | refine IntG.wr' rfl ?_ | refine Chk.mk (by omega) ?_ | (refine BrG.id ?_; first | with_reducible refine BrG.t ?_ | with_reducible refine BrG.f ?_ | with_reducible refine BrG.notG ?_ | with_reducible refine BrG.nn ?_ | with_reducible refine BrG.ns ?_ | refine BrG.pos (by omega) ?_ | refine BrG.neg (by omega) ?_ | with_reducible refine BrG.pos rfl ?_ | refine BrG.pos (by assumption) ?_ | refine BrG.neg (by assumption) ?_ | refine BrG.pos (by decide) ?_ | refine BrG.neg (by decide) ?_) | refine Chk.mk (ptr_ok tblOk rfl rfl) ?_ | refine Chk.mk (by decide) ?_)
          exact .inr ⟨hIn, a1, c1, L1, rfl, hv0, hS.sub (List.sublist_append_left _ _)⟩
end Go.Proofs.YtlghahalejgkfaaDoor
