/- Package rows: inForm. -/
import Derived.Test.YtlghahalejgkfaaDoorRise
namespace Go.Proofs.YtlghahalejgkfaaDoor
open Go Go.Eng Go.Proofs
def seatFine (p : PaxM) : Prop := (p.num = 0 ∧ p.c = 0) ∨ seatOk p.num p.c = true
structure InForm (s : StateM) : Prop where
  seats : ∀ p ∈ s.pxs, seatFine p
  eqs : Rises (s.eqs.map (fun x => x.id))
  fls : Rises (s.fls.map (fun x => x.id))
  pxs : Rises (s.pxs.map (fun x => x.id))
structure StateAt (w : World) (s : StateM) (a b c : Option Addr) (ca cb cc : Nat) : Prop where
  eqs : RSl 2 REquip w [.slice a s.eqs.length ca] s.eqs
  fls : RSl 8 RFlight w [.slice b s.fls.length cb] s.fls
  pxs : RSl 13 RPax w [.slice c s.pxs.length cc] s.pxs
  bulk : (s.eqs.map fun e => rowsW e.rows + 3).sum + 9 * s.fls.length + 14 * s.pxs.length + 4 ≤ 1048576
theorem sum_ge (l : List EquipM) : 3 * l.length ≤ (l.map fun e => rowsW e.rows + 3).sum := by
  induction l with
  | nil => simp
  | cons e l ih => simp only [List.map_cons, List.sum_cons, List.length_cons]; omega
theorem sum_at (l : List EquipM) (k : Nat) (hk : k < l.length) : rowsW l[k].rows + 3 ≤ (l.map fun e => rowsW e.rows + 3).sum := by
  induction l generalizing k with
  | nil => simp at hk
  | cons e l ih =>
    simp only [List.map_cons, List.sum_cons]
    cases k with
    | zero => simp
    | succ k => have := ih k (by simpa using hk); rw [List.getElem_cons_succ]; omega
def stV (s : StateM) (a b c : Option Addr) (ca cb cc : Nat) : List Value := [.slice a s.eqs.length ca, .slice b s.fls.length cb, .slice c s.pxs.length cc]
theorem StateAt.keep {w0 w : World} {H : Heap} (hS : St w0 [] H w) {s : StateM} {a b c : Option Addr} {ca cb cc : Nat} (h : StateAt w0 s a b c ca cb cc) : StateAt w s a b c ca cb cc :=
  ⟨RSl.keep hS (fun cs x ⟨v, h1, h2, h3⟩ => ⟨v, h1, h2, RSl.keep hS (fun _ _ h => h) h3⟩) h.eqs, RSl.keep hS (fun _ _ h => h) h.fls, RSl.keep hS (fun _ _ h => h) h.pxs, h.bulk⟩
set_option maxHeartbeats 4000000 in
theorem inForm_spec {w : World} {s : StateM} {a b c : Option Addr} {ca cb cc : Nat} (hs : StateAt w s a b c ca cb cc) :
    Cl Tryd.prog f_rows_inForm [.agg ⟨stV s a b c ca cb cc⟩] w fun v w' => (∃ bv : Bool, v = .bool bv ∧ (bv = true ↔ InForm s)) ∧ St w [] [] w' := by
  have hS := St.start w
  have hbulk := hs.bulk
  have hge := sum_ge s.eqs
  unfold stV
  refine en_rows_inForm rfl ?_
  repeat (first | refine SemW.run tblOk ?_ | refine IntG.nw (by omega) ?_ | refine IntG.nu8 (by omega) ?_ | refine IntG.nu32 (by omega) ?_ | refine IntG.nu64 (by omega) ?_ | refine IntG.wr' rfl ?_ | refine Chk.mk (by omega) ?_ | (refine BrG.id ?_; first | with_reducible refine BrG.t ?_ | with_reducible refine BrG.f ?_ | with_reducible refine BrG.notG ?_ | with_reducible refine BrG.nn ?_ | with_reducible refine BrG.ns ?_ | refine BrG.pos (by omega) ?_ | refine BrG.neg (by omega) ?_ | with_reducible refine BrG.pos rfl ?_ | refine BrG.pos (by assumption) ?_ | refine BrG.neg (by assumption) ?_ | refine BrG.pos (by decide) ?_ | refine BrG.neg (by decide) ?_) | refine Chk.mk (ptr_ok tblOk rfl rfl) ?_ | refine Chk.mk (by decide) ?_)
  refine hS.al ?_
  intro b1 w1 _ hS
  repeat (first | refine SemW.run tblOk ?_ | refine IntG.nw (by omega) ?_ | refine IntG.nu8 (by omega) ?_ | refine IntG.nu32 (by omega) ?_ | refine IntG.nu64 (by omega) ?_ | refine IntG.wr' rfl ?_ | refine Chk.mk (by omega) ?_ | (refine BrG.id ?_; first | with_reducible refine BrG.t ?_ | with_reducible refine BrG.f ?_ | with_reducible refine BrG.notG ?_ | with_reducible refine BrG.nn ?_ | with_reducible refine BrG.ns ?_ | refine BrG.pos (by omega) ?_ | refine BrG.neg (by omega) ?_ | with_reducible refine BrG.pos rfl ?_ | refine BrG.pos (by assumption) ?_ | refine BrG.neg (by assumption) ?_ | refine BrG.pos (by decide) ?_ | refine BrG.neg (by decide) ?_) | refine Chk.mk (ptr_ok tblOk rfl rfl) ?_ | refine Chk.mk (by decide) ?_ | refine hS.ld rfl ?_ | refine hS.ldn rfl ?_ | (refine hS.st rfl rfl ?_; intro _ hS))
  rename_i w2
  refine SemW.loop (fun k : Nat => [(1, ptr b1), (6, .slice c s.pxs.length cc), (7, .int .i64 s.pxs.length), (8, .int .i64 k)])
    (fun k w' => k ≤ s.pxs.length ∧ (∀ i (h : i < s.pxs.length), i < k → seatFine s.pxs[i]) ∧ St w [] [(b1, .cells ⟨stV s a b c ca cb cc⟩ T_api_State (0, 0))] w') (fun k => s.pxs.length - k) 0
    ⟨rfl, rfl, rfl, rfl, trivial⟩ ⟨Nat.zero_le _, fun i _ h => by omega, hS⟩ ?_
  clear hS
  rintro k w3 ⟨hk, hfine, hS⟩
  by_cases hkl : k < s.pxs.length
  · obtain ⟨g, off, cs, hg, ⟨rfl, hp⟩, hld⟩ := RSl.ldn (hS.sub (H' := []) (List.nil_sublist _)) hs.pxs hkl
    have hnext : seatFine s.pxs[k] → ∀ i (h : i < s.pxs.length), i < k + 1 → seatFine s.pxs[i] := fun h i h1 h2 => by
      by_cases hik : i = k
      · subst hik; exact h
      · exact hfine i h1 (by omega)
    have hno : ¬ seatFine s.pxs[k] → ¬ InForm s := fun h hi => h (hi.seats _ (List.getElem_mem hkl))
    generalize s.pxs[k] = p at hp hld hnext hno
    have hpc := hp.c
    subst hg
    repeat (first | refine SemW.run tblOk ?_ | refine IntG.nw (by omega) ?_ | refine IntG.nu8 (by omega) ?_ | refine IntG.nu32 (by omega) ?_ | refine IntG.nu64 (by omega) ?_ | refine IntG.wr' rfl ?_ | refine Chk.mk (by omega) ?_ | (refine BrG.id ?_; first | with_reducible refine BrG.t ?_ | with_reducible refine BrG.f ?_ | with_reducible refine BrG.notG ?_ | with_reducible refine BrG.nn ?_ | with_reducible refine BrG.ns ?_ | refine BrG.pos (by omega) ?_ | refine BrG.neg (by omega) ?_ | with_reducible refine BrG.pos rfl ?_ | refine BrG.pos (by assumption) ?_ | refine BrG.neg (by assumption) ?_ | refine BrG.pos (by decide) ?_ | refine BrG.neg (by decide) ?_) | refine Chk.mk (ptr_ok tblOk rfl rfl) ?_ | refine Chk.mk (by decide) ?_)
    refine hld _ ?_
    unfold paxC
    repeat (first | refine SemW.run tblOk ?_ | refine IntG.nw (by omega) ?_ | refine IntG.nu8 (by omega) ?_ | refine IntG.nu32 (by omega) ?_ | refine IntG.nu64 (by omega) ?_ | refine IntG.wr' rfl ?_ | refine Chk.mk (by omega) ?_ | (refine BrG.id ?_; first | with_reducible refine BrG.t ?_ | with_reducible refine BrG.f ?_ | with_reducible refine BrG.notG ?_ | with_reducible refine BrG.nn ?_ | with_reducible refine BrG.ns ?_ | refine BrG.pos (by omega) ?_ | refine BrG.neg (by omega) ?_ | with_reducible refine BrG.pos rfl ?_ | refine BrG.pos (by assumption) ?_ | refine BrG.neg (by assumption) ?_ | refine BrG.pos (by decide) ?_ | refine BrG.neg (by decide) ?_) | refine Chk.mk (ptr_ok tblOk rfl rfl) ?_ | refine Chk.mk (by decide) ?_)
    refine hS.al ?_
    intro b4 w4 _ hS
    repeat (first | refine SemW.run tblOk ?_ | refine IntG.nw (by omega) ?_ | refine IntG.nu8 (by omega) ?_ | refine IntG.nu32 (by omega) ?_ | refine IntG.nu64 (by omega) ?_ | refine IntG.wr' rfl ?_ | refine Chk.mk (by omega) ?_ | (refine BrG.id ?_; first | with_reducible refine BrG.t ?_ | with_reducible refine BrG.f ?_ | with_reducible refine BrG.notG ?_ | with_reducible refine BrG.nn ?_ | with_reducible refine BrG.ns ?_ | refine BrG.pos (by omega) ?_ | refine BrG.neg (by omega) ?_ | with_reducible refine BrG.pos rfl ?_ | refine BrG.pos (by assumption) ?_ | refine BrG.neg (by assumption) ?_ | refine BrG.pos (by decide) ?_ | refine BrG.neg (by decide) ?_) | refine Chk.mk (ptr_ok tblOk rfl rfl) ?_ | refine Chk.mk (by decide) ?_ | refine hS.ld rfl ?_ | refine hS.ldn rfl ?_ | (refine hS.st rfl rfl ?_; intro _ hS))
    refine neqAgg (n := 2) (by omega) (by kernel_rfl) (eqSeat p.num p.c 0 0) ?_
    by_cases hz : p.num = 0 ∧ p.c = 0
    · rw [decide_eq_true hz, Bool.not_true]
      repeat (first | refine SemW.run tblOk ?_ | refine IntG.nw (by omega) ?_ | refine IntG.nu8 (by omega) ?_ | refine IntG.nu32 (by omega) ?_ | refine IntG.nu64 (by omega) ?_ | refine IntG.wr' rfl ?_ | refine Chk.mk (by omega) ?_ | (refine BrG.id ?_; first | with_reducible refine BrG.t ?_ | with_reducible refine BrG.f ?_ | with_reducible refine BrG.notG ?_ | with_reducible refine BrG.nn ?_ | with_reducible refine BrG.ns ?_ | refine BrG.pos (by omega) ?_ | refine BrG.neg (by omega) ?_ | with_reducible refine BrG.pos rfl ?_ | refine BrG.pos (by assumption) ?_ | refine BrG.neg (by assumption) ?_ | refine BrG.pos (by decide) ?_ | refine BrG.neg (by decide) ?_) | refine Chk.mk (ptr_ok tblOk rfl rfl) ?_ | refine Chk.mk (by decide) ?_ | refine hS.ld rfl ?_ | refine hS.ldn rfl ?_ | (refine hS.st rfl rfl ?_; intro _ hS))
      exact ⟨k + 1, ⟨rfl, rfl, rfl, rfl, trivial⟩, ⟨by omega, hnext (.inl hz), hS.sub (List.sublist_cons_self _ _)⟩, by omega⟩
    · rw [decide_eq_false hz, Bool.not_false]
      repeat (first | refine SemW.run tblOk ?_ | refine IntG.nw (by omega) ?_ | refine IntG.nu8 (by omega) ?_ | refine IntG.nu32 (by omega) ?_ | refine IntG.nu64 (by omega) ?_ | refine IntG.wr' rfl ?_ | refine Chk.mk (by omega) ?_ | (refine BrG.id ?_; first | with_reducible refine BrG.t ?_ | with_reducible refine BrG.f ?_ | with_reducible refine BrG.notG ?_ | with_reducible refine BrG.nn ?_ | with_reducible refine BrG.ns ?_ | refine BrG.pos (by omega) ?_ | refine BrG.neg (by omega) ?_ | with_reducible refine BrG.pos rfl ?_ | refine BrG.pos (by assumption) ?_ | refine BrG.neg (by assumption) ?_ | refine BrG.pos (by decide) ?_ | refine BrG.neg (by decide) ?_) | refine Chk.mk (ptr_ok tblOk rfl rfl) ?_ | refine Chk.mk (by decide) ?_ | refine hS.ld rfl ?_ | refine hS.ldn rfl ?_ | (refine hS.st rfl rfl ?_; intro _ hS))
      refine Cl.mono (Label_spec p.num p.c hpc) ?_
      rintro _ w5 ⟨rfl, hS'⟩
      have hS := hS.call0 hS'
      have hd := labelB_dash p.num p.c
      by_cases hok : seatOk p.num p.c = true
      · have hne : ¬ labelB p.num p.c = [45] := fun h => by rw [hd.1 h] at hok; cases hok
        repeat (first | refine SemW.run tblOk ?_ | refine IntG.nw (by omega) ?_ | refine IntG.nu8 (by omega) ?_ | refine IntG.nu32 (by omega) ?_ | refine IntG.nu64 (by omega) ?_ | refine IntG.wr' rfl ?_ | refine Chk.mk (by omega) ?_ | (refine BrG.id ?_; first | with_reducible refine BrG.t ?_ | with_reducible refine BrG.f ?_ | with_reducible refine BrG.notG ?_ | with_reducible refine BrG.nn ?_ | with_reducible refine BrG.ns ?_ | refine BrG.pos (by omega) ?_ | refine BrG.neg (by omega) ?_ | with_reducible refine BrG.pos rfl ?_ | refine BrG.pos (by assumption) ?_ | refine BrG.neg (by assumption) ?_ | refine BrG.pos (by decide) ?_ | refine BrG.neg (by decide) ?_) | refine Chk.mk (ptr_ok tblOk rfl rfl) ?_ | refine Chk.mk (by decide) ?_ | refine hS.ld rfl ?_ | refine hS.ldn rfl ?_ | (refine hS.st rfl rfl ?_; intro _ hS))
        exact ⟨k + 1, ⟨rfl, rfl, rfl, rfl, trivial⟩, ⟨by omega, hnext (.inr hok), hS.sub (List.sublist_cons_self _ _)⟩, by omega⟩
      · have hne : labelB p.num p.c = [45] := hd.2 (by simpa using hok)
        repeat (first | refine SemW.run tblOk ?_ | refine IntG.nw (by omega) ?_ | refine IntG.nu8 (by omega) ?_ | refine IntG.nu32 (by omega) ?_ | refine IntG.nu64 (by omega) ?_ | refine IntG.wr' rfl ?_ | refine Chk.mk (by omega) ?_ | (refine BrG.id ?_; first | with_reducible refine BrG.t ?_ | with_reducible refine BrG.f ?_ | with_reducible refine BrG.notG ?_ | with_reducible refine BrG.nn ?_ | with_reducible refine BrG.ns ?_ | refine BrG.pos (by omega) ?_ | refine BrG.neg (by omega) ?_ | with_reducible refine BrG.pos rfl ?_ | refine BrG.pos (by assumption) ?_ | refine BrG.neg (by assumption) ?_ | refine BrG.pos (by decide) ?_ | refine BrG.neg (by decide) ?_) | refine Chk.mk (ptr_ok tblOk rfl rfl) ?_ | refine Chk.mk (by decide) ?_ | refine hS.ld rfl ?_ | refine hS.ldn rfl ?_ | (refine hS.st rfl rfl ?_; intro _ hS))
        refine ⟨⟨false, rfl, ?_⟩, hS.nil⟩
        simp only [Bool.false_eq_true, false_iff]
        exact hno (fun h => h.elim hz hok)
  · have hke : k = s.pxs.length := by omega
    subst hke
    unfold stV at hS
    have hs' := hs.keep hS
    have hseats : ∀ p ∈ s.pxs, seatFine p := fun p hp => by
      obtain ⟨i, hi, rfl⟩ := List.mem_iff_getElem.1 hp
      exact hfine i hi hi
    repeat (first | refine SemW.run tblOk ?_ | refine IntG.nw (by omega) ?_ | refine IntG.nu8 (by omega) ?_ | refine IntG.nu32 (by omega) ?_ | refine IntG.nu64 (by omega) ?_ | refine IntG.wr' rfl ?_ | refine Chk.mk (by omega) ?_ | (refine BrG.id ?_; first | with_reducible refine BrG.t ?_ | with_reducible refine BrG.f ?_ | with_reducible refine BrG.notG ?_ | with_reducible refine BrG.nn ?_ | with_reducible refine BrG.ns ?_ | refine BrG.pos (by omega) ?_ | refine BrG.neg (by omega) ?_ | with_reducible refine BrG.pos rfl ?_ | refine BrG.pos (by assumption) ?_ | refine BrG.neg (by assumption) ?_ | refine BrG.pos (by decide) ?_ | refine BrG.neg (by decide) ?_) | refine Chk.mk (ptr_ok tblOk rfl rfl) ?_ | refine Chk.mk (by decide) ?_ | refine hS.ld rfl ?_ | refine hS.ldn rfl ?_ | (refine hS.st rfl rfl ?_; intro _ hS))
    refine Cl.mono (rising_Equip_spec rfl hs'.eqs (by omega)) ?_
    rintro _ w5 ⟨⟨b1', rfl, hb1⟩, hS'⟩
    have hS := hS.call0 hS'
    have hs' := hs.keep hS
    cases b1' with
    | false =>
      repeat (first | refine SemW.run tblOk ?_ | refine IntG.nw (by omega) ?_ | refine IntG.nu8 (by omega) ?_ | refine IntG.nu32 (by omega) ?_ | refine IntG.nu64 (by omega) ?_ | refine IntG.wr' rfl ?_ | refine Chk.mk (by omega) ?_ | (refine BrG.id ?_; first | with_reducible refine BrG.t ?_ | with_reducible refine BrG.f ?_ | with_reducible refine BrG.notG ?_ | with_reducible refine BrG.nn ?_ | with_reducible refine BrG.ns ?_ | refine BrG.pos (by omega) ?_ | refine BrG.neg (by omega) ?_ | with_reducible refine BrG.pos rfl ?_ | refine BrG.pos (by assumption) ?_ | refine BrG.neg (by assumption) ?_ | refine BrG.pos (by decide) ?_ | refine BrG.neg (by decide) ?_) | refine Chk.mk (ptr_ok tblOk rfl rfl) ?_ | refine Chk.mk (by decide) ?_ | refine hS.ld rfl ?_ | refine hS.ldn rfl ?_ | (refine hS.st rfl rfl ?_; intro _ hS))
      refine ⟨⟨false, rfl, ?_⟩, hS.nil⟩
      simp only [Bool.false_eq_true, false_iff]
      exact fun h => by have := hb1.2 h.eqs; cases this
    | true =>
      repeat (first | refine SemW.run tblOk ?_ | refine IntG.nw (by omega) ?_ | refine IntG.nu8 (by omega) ?_ | refine IntG.nu32 (by omega) ?_ | refine IntG.nu64 (by omega) ?_ | refine IntG.wr' rfl ?_ | refine Chk.mk (by omega) ?_ | (refine BrG.id ?_; first | with_reducible refine BrG.t ?_ | with_reducible refine BrG.f ?_ | with_reducible refine BrG.notG ?_ | with_reducible refine BrG.nn ?_ | with_reducible refine BrG.ns ?_ | refine BrG.pos (by omega) ?_ | refine BrG.neg (by omega) ?_ | with_reducible refine BrG.pos rfl ?_ | refine BrG.pos (by assumption) ?_ | refine BrG.neg (by assumption) ?_ | refine BrG.pos (by decide) ?_ | refine BrG.neg (by decide) ?_) | refine Chk.mk (ptr_ok tblOk rfl rfl) ?_ | refine Chk.mk (by decide) ?_ | refine hS.ld rfl ?_ | refine hS.ldn rfl ?_ | (refine hS.st rfl rfl ?_; intro _ hS))
      refine Cl.mono (rising_Flight_spec rfl hs'.fls (by omega)) ?_
      rintro _ w6 ⟨⟨b2', rfl, hb2⟩, hS'⟩
      have hS := hS.call0 hS'
      have hs' := hs.keep hS
      cases b2' with
      | false =>
        repeat (first | refine SemW.run tblOk ?_ | refine IntG.nw (by omega) ?_ | refine IntG.nu8 (by omega) ?_ | refine IntG.nu32 (by omega) ?_ | refine IntG.nu64 (by omega) ?_ | refine IntG.wr' rfl ?_ | refine Chk.mk (by omega) ?_ | (refine BrG.id ?_; first | with_reducible refine BrG.t ?_ | with_reducible refine BrG.f ?_ | with_reducible refine BrG.notG ?_ | with_reducible refine BrG.nn ?_ | with_reducible refine BrG.ns ?_ | refine BrG.pos (by omega) ?_ | refine BrG.neg (by omega) ?_ | with_reducible refine BrG.pos rfl ?_ | refine BrG.pos (by assumption) ?_ | refine BrG.neg (by assumption) ?_ | refine BrG.pos (by decide) ?_ | refine BrG.neg (by decide) ?_) | refine Chk.mk (ptr_ok tblOk rfl rfl) ?_ | refine Chk.mk (by decide) ?_ | refine hS.ld rfl ?_ | refine hS.ldn rfl ?_ | (refine hS.st rfl rfl ?_; intro _ hS))
        refine ⟨⟨false, rfl, ?_⟩, hS.nil⟩
        simp only [Bool.false_eq_true, false_iff]
        exact fun h => by have := hb2.2 h.fls; cases this
      | true =>
        repeat (first | refine SemW.run tblOk ?_ | refine IntG.nw (by omega) ?_ | refine IntG.nu8 (by omega) ?_ | refine IntG.nu32 (by omega) ?_ | refine IntG.nu64 (by omega) ?_ | refine IntG.wr' rfl ?_ | refine Chk.mk (by omega) ?_ | (refine BrG.id ?_; first | with_reducible refine BrG.t ?_ | with_reducible refine BrG.f ?_ | with_reducible refine BrG.notG ?_ | with_reducible refine BrG.nn ?_ | with_reducible refine BrG.ns ?_ | refine BrG.pos (by omega) ?_ | refine BrG.neg (by omega) ?_ | with_reducible refine BrG.pos rfl ?_ | refine BrG.pos (by assumption) ?_ | refine BrG.neg (by assumption) ?_ | refine BrG.pos (by decide) ?_ | refine BrG.neg (by decide) ?_) | refine Chk.mk (ptr_ok tblOk rfl rfl) ?_ | refine Chk.mk (by decide) ?_ | refine hS.ld rfl ?_ | refine hS.ldn rfl ?_ | (refine hS.st rfl rfl ?_; intro _ hS))
        refine Cl.mono (rising_Pax_spec rfl hs'.pxs (by omega)) ?_
        rintro _ w7 ⟨⟨b3', rfl, hb3⟩, hS'⟩
        have hS := hS.call0 hS'
        repeat (first | refine SemW.run tblOk ?_ | refine IntG.nw (by omega) ?_ | refine IntG.nu8 (by omega) ?_ | refine IntG.nu32 (by omega) ?_ | refine IntG.nu64 (by omega) ?_ | refine IntG.wr' rfl ?_ | refine Chk.mk (by omega) ?_ | (refine BrG.id ?_; first | with_reducible refine BrG.t ?_ | with_reducible refine BrG.f ?_ | with_reducible refine BrG.notG ?_ | with_reducible refine BrG.nn ?_ | with_reducible refine BrG.ns ?_ | refine BrG.pos (by omega) ?_ | refine BrG.neg (by omega) ?_ | with_reducible refine BrG.pos rfl ?_ | refine BrG.pos (by assumption) ?_ | refine BrG.neg (by assumption) ?_ | refine BrG.pos (by decide) ?_ | refine BrG.neg (by decide) ?_) | refine Chk.mk (ptr_ok tblOk rfl rfl) ?_ | refine Chk.mk (by decide) ?_ | refine hS.ld rfl ?_ | refine hS.ldn rfl ?_ | (refine hS.st rfl rfl ?_; intro _ hS))
        refine ⟨⟨b3', rfl, fun h => ⟨hseats, hb1.1 rfl, hb2.1 rfl, hb3.1 h⟩, fun h => hb3.2 h.pxs⟩, hS.nil⟩
end Go.Proofs.YtlghahalejgkfaaDoor
