/- tarmacref22.Diff. -/
import Derived.Test.YtlghahalejgkfaaDoorRef22P
namespace Go.Proofs.YtlghahalejgkfaaDoor
open Go Go.Eng Go.Proofs
theorem find_none {l : List RecM} {k : Bytes} (h : findR l k = none) : ∀ x ∈ l, ¬ x.1 = k := by
  unfold findR at h
  rw [List.find?_eq_none] at h
  intro x hx e
  exact h x hx (decide_eq_true e)
theorem find_some {l : List RecM} {k : Bytes} {x : RecM} (h : findR l k = some x) : x ∈ l ∧ x.1 = k := by
  unfold findR at h
  exact ⟨List.mem_of_find?_eq_some h, by simpa using List.find?_some h⟩
theorem key_uniq {l : List RecM} (hl : l.Pairwise LessR) {x y : RecM} (hx : x ∈ l) (hy : y ∈ l) (h : x.1 = y.1) : x = y := by
  induction l with
  | nil => cases hx
  | cons z l ih =>
    rw [List.pairwise_cons] at hl
    rcases List.mem_cons.1 hx with e | hx'
    · rcases List.mem_cons.1 hy with e' | hy'
      · rw [e, e']
      · rw [e] at h; exact absurd h (less_ne (hl.1 y hy'))
    · rcases List.mem_cons.1 hy with e' | hy'
      · rw [e'] at h; exact absurd h.symm (less_ne (hl.1 x hx'))
      · exact ih hl.2 hx' hy'
theorem key_take {l : List RecM} (hl : l.Pairwise LessR) {k : Nat} (hk : k < l.length) {x : RecM} (hx : x ∈ l.take k) : ¬ x.1 = l[k].1 := by
  obtain ⟨i, hi, rfl⟩ := List.mem_iff_getElem.1 hx
  rw [List.length_take] at hi
  rw [List.getElem_take]
  exact less_ne ((List.pairwise_iff_getElem.1 hl) i k (by omega) hk (by omega))
theorem mem_take_succ {l : List RecM} {k : Nat} (hk : k < l.length) (x : RecM) : x ∈ l.take (k + 1) ↔ x ∈ l.take k ∨ x = l[k] := by
  rw [List.take_succ_eq_append_getElem hk, List.mem_append, List.mem_singleton]
/-- A list of operations, readable, in order. -/
structure OpsAt (w : World) (a : Option Addr) (cap : Nat) (l : List OpM) : Prop where
  arr : Arr w [] a (l.flatMap opDC)
  addr : a = none ∨ ∃ g off, a = some ⟨g, off, none⟩
  cap : l.length ≤ cap
  sorted : l.Pairwise LessO
theorem OpsAt.keep {w0 w : World} {H : Heap} (hS : St w0 [] H w) {a : Option Addr} {cap : Nat} {l : List OpM} (h : OpsAt w0 a cap l) : OpsAt w a cap l := ⟨hS.arrOld h.arr, h.addr, h.cap, h.sorted⟩
/-- What was put from the second list's first k records. -/
def P1 (A B : List RecM) (k : Nat) (outs : List OpM) : Prop := ∀ o, o ∈ outs ↔ ∃ y ∈ B.take k, y ∉ A ∧ o = rop y
def P2 (A B : List RecM) (k : Nat) (outs : List OpM) : Prop := ∀ o, o ∈ outs ↔ (∃ y ∈ B, y ∉ A ∧ o = rop y) ∨ (∃ x ∈ A.take k, (∀ y ∈ B, ¬ y.1 = x.1) ∧ o = (x.1, true, []))
theorem P1.skip {A B : List RecM} {k : Nat} {outs : List OpM} (h : P1 A B k outs) (hk : k < B.length) (hm : B[k] ∈ A) : P1 A B (k + 1) outs := fun o => by
  rw [h o]
  constructor
  · rintro ⟨y, hy, hn, rfl⟩; exact ⟨y, (mem_take_succ hk y).2 (.inl hy), hn, rfl⟩
  · rintro ⟨y, hy, hn, rfl⟩
    rcases (mem_take_succ hk y).1 hy with hy | rfl
    · exact ⟨y, hy, hn, rfl⟩
    · exact absurd hm hn
theorem P1.put {A B : List RecM} {k : Nat} {outs : List OpM} (h : P1 A B k outs) (hk : k < B.length) (hm : B[k] ∉ A) : P1 A B (k + 1) (insO outs (rop B[k])) := fun o => by
  rw [ins_mem, h o]
  constructor
  · rintro (rfl | ⟨y, hy, hn, rfl⟩)
    · exact ⟨B[k], (mem_take_succ hk _).2 (.inr rfl), hm, rfl⟩
    · exact ⟨y, (mem_take_succ hk y).2 (.inl hy), hn, rfl⟩
  · rintro ⟨y, hy, hn, rfl⟩
    rcases (mem_take_succ hk y).1 hy with hy | rfl
    · exact .inr ⟨y, hy, hn, rfl⟩
    · exact .inl rfl
theorem P1.keys {A B : List RecM} {k : Nat} {outs : List OpM} (h : P1 A B k outs) (hk : k < B.length) (hB : B.Pairwise LessR) : ∀ p ∈ outs, ¬ p.1 = (rop B[k]).1 := fun p hp => by
  obtain ⟨y, hy, -, rfl⟩ := (h p).1 hp
  exact key_take hB hk hy
theorem P2.skip {A B : List RecM} {k : Nat} {outs : List OpM} (h : P2 A B k outs) (hk : k < A.length) {y : RecM} (hy : y ∈ B) (hm : y.1 = A[k].1) : P2 A B (k + 1) outs := fun o => by
  rw [h o]
  constructor
  · rintro (h | ⟨x, hx, hn, rfl⟩)
    · exact .inl h
    · exact .inr ⟨x, (mem_take_succ hk x).2 (.inl hx), hn, rfl⟩
  · rintro (h | ⟨x, hx, hn, rfl⟩)
    · exact .inl h
    · rcases (mem_take_succ hk x).1 hx with hx | rfl
      · exact .inr ⟨x, hx, hn, rfl⟩
      · exact absurd hm (hn y hy)
theorem P2.put {A B : List RecM} {k : Nat} {outs : List OpM} (h : P2 A B k outs) (hk : k < A.length) (hm : ∀ y ∈ B, ¬ y.1 = A[k].1) : P2 A B (k + 1) (insO outs (A[k].1, true, [])) := fun o => by
  rw [ins_mem, h o]
  constructor
  · rintro (rfl | h | ⟨x, hx, hn, rfl⟩)
    · exact .inr ⟨A[k], (mem_take_succ hk _).2 (.inr rfl), hm, rfl⟩
    · exact .inl h
    · exact .inr ⟨x, (mem_take_succ hk x).2 (.inl hx), hn, rfl⟩
  · rintro (h | ⟨x, hx, hn, rfl⟩)
    · exact .inr (.inl h)
    · rcases (mem_take_succ hk x).1 hx with hx | rfl
      · exact .inr (.inr ⟨x, hx, hn, rfl⟩)
      · exact .inl rfl
theorem P2.keys {A B : List RecM} {k : Nat} {outs : List OpM} (h : P2 A B k outs) (hk : k < A.length) (hA : A.Pairwise LessR) (hm : ∀ y ∈ B, ¬ y.1 = A[k].1) : ∀ p ∈ outs, ¬ p.1 = A[k].1 := fun p hp => by
  rcases (h p).1 hp with ⟨y, hy, -, rfl⟩ | ⟨x, hx, -, rfl⟩
  · exact hm y hy
  · exact key_take hA hk hx
structure D2 where
  outs : List OpM
  k : Nat
  a : Option Addr
  c : Nat
set_option maxHeartbeats 8000000 in
theorem Diff22_spec {w : World} {s1 s2 : StateM} {a1 b1 c1 a2 b2 c2 : Option Addr} {ca1 cb1 cc1 ca2 cb2 cc2 : Nat} (h1 : StateAt w s1 a1 b1 c1 ca1 cb1 cc1) (h2 : StateAt w s2 a2 b2 c2 ca2 cb2 cc2) :
    Cl Tryd.prog f_tarmacref22_Diff [.agg ⟨stV s1 a1 b1 c1 ca1 cb1 cc1⟩, .agg ⟨stV s2 a2 b2 c2 ca2 cb2 cc2⟩] w fun v w' => (¬ (InForm s1 ∧ InForm s2) ∧ v = .tuple ⟨[.slice none 0 0, .int .i64 36]⟩ ∧ St w [] [] w') ∨
      (InForm s1 ∧ InForm s2 ∧ ∃ a' c', v = .tuple ⟨[.slice a' (diffL (recs s1) (recs s2)).length c', .int .i64 0]⟩ ∧ Arr w' [] a' ((diffL (recs s1) (recs s2)).flatMap opDC) ∧ St w [] [] w') := by
  have hS := St.start w
  have hn1 := recs_len h1
  have hn2 := recs_len h2
  have hA1 := fun {w' : World} {H : Heap} (hS : St w [] H w') => All22_spec (h1.keep hS)
  have hA2 := fun {w' : World} {H : Heap} (hS : St w [] H w') => All22_spec (h2.keep hS)
  have hid1 := h1.ids
  have hid2 := h2.ids
  unfold stV at hA1 hA2 ⊢
  refine en_tarmacref22_Diff rfl ?_
  repeat (first | refine SemW.run tblOk ?_ | refine IntG.nw (by omega) ?_ | refine IntG.nu8 (by omega) ?_ | refine IntG.nu32 (by omega) ?_ | refine IntG.nu64 (by omega) ?_ | refine IntG.wr' rfl ?_ | refine Chk.mk (by omega) ?_ | (refine BrG.id ?_; first | with_reducible refine BrG.t ?_ | with_reducible refine BrG.f ?_ | with_reducible refine BrG.notG ?_ | with_reducible refine BrG.nn ?_ | with_reducible refine BrG.ns ?_ | refine BrG.pos (by omega) ?_ | refine BrG.neg (by omega) ?_ | with_reducible refine BrG.pos rfl ?_ | refine BrG.pos (by assumption) ?_ | refine BrG.neg (by assumption) ?_ | refine BrG.pos (by decide) ?_ | refine BrG.neg (by decide) ?_) | refine Chk.mk (ptr_ok tblOk rfl rfl) ?_ | refine Chk.mk (by decide) ?_)
  refine hS.al ?_
  intro t2 w1 _ hS
  repeat (first | refine SemW.run tblOk ?_ | refine IntG.nw (by omega) ?_ | refine IntG.nu8 (by omega) ?_ | refine IntG.nu32 (by omega) ?_ | refine IntG.nu64 (by omega) ?_ | refine IntG.wr' rfl ?_ | refine Chk.mk (by omega) ?_ | (refine BrG.id ?_; first | with_reducible refine BrG.t ?_ | with_reducible refine BrG.f ?_ | with_reducible refine BrG.notG ?_ | with_reducible refine BrG.nn ?_ | with_reducible refine BrG.ns ?_ | refine BrG.pos (by omega) ?_ | refine BrG.neg (by omega) ?_ | with_reducible refine BrG.pos rfl ?_ | refine BrG.pos (by assumption) ?_ | refine BrG.neg (by assumption) ?_ | refine BrG.pos (by decide) ?_ | refine BrG.neg (by decide) ?_) | refine Chk.mk (ptr_ok tblOk rfl rfl) ?_ | refine Chk.mk (by decide) ?_)
  refine hS.al ?_
  intro t3 w2 _ hS
  repeat (first | refine SemW.run tblOk ?_ | refine IntG.nw (by omega) ?_ | refine IntG.nu8 (by omega) ?_ | refine IntG.nu32 (by omega) ?_ | refine IntG.nu64 (by omega) ?_ | refine IntG.wr' rfl ?_ | refine Chk.mk (by omega) ?_ | (refine BrG.id ?_; first | with_reducible refine BrG.t ?_ | with_reducible refine BrG.f ?_ | with_reducible refine BrG.notG ?_ | with_reducible refine BrG.nn ?_ | with_reducible refine BrG.ns ?_ | refine BrG.pos (by omega) ?_ | refine BrG.neg (by omega) ?_ | with_reducible refine BrG.pos rfl ?_ | refine BrG.pos (by assumption) ?_ | refine BrG.neg (by assumption) ?_ | refine BrG.pos (by decide) ?_ | refine BrG.neg (by decide) ?_) | refine Chk.mk (ptr_ok tblOk rfl rfl) ?_ | refine Chk.mk (by decide) ?_ | refine hS.ld rfl ?_ | refine hS.ldn rfl ?_ | (refine hS.st rfl rfl ?_; intro _ hS))
  refine Cl.mono (hA1 hS) ?_
  rintro _ w3 (⟨hno, rfl, hS'⟩ | ⟨hin1, a', c', L, rfl, hv1, hS'⟩)
  · have hS := hS.call0 hS'
    repeat (first | refine SemW.run tblOk ?_ | refine IntG.nw (by omega) ?_ | refine IntG.nu8 (by omega) ?_ | refine IntG.nu32 (by omega) ?_ | refine IntG.nu64 (by omega) ?_ | refine IntG.wr' rfl ?_ | refine Chk.mk (by omega) ?_ | (refine BrG.id ?_; first | with_reducible refine BrG.t ?_ | with_reducible refine BrG.f ?_ | with_reducible refine BrG.notG ?_ | with_reducible refine BrG.nn ?_ | with_reducible refine BrG.ns ?_ | refine BrG.pos (by omega) ?_ | refine BrG.neg (by omega) ?_ | with_reducible refine BrG.pos rfl ?_ | refine BrG.pos (by assumption) ?_ | refine BrG.neg (by assumption) ?_ | refine BrG.pos (by decide) ?_ | refine BrG.neg (by decide) ?_) | refine Chk.mk (ptr_ok tblOk rfl rfl) ?_ | refine Chk.mk (by decide) ?_ | refine hS.ld rfl ?_ | refine hS.ldn rfl ?_ | (refine hS.st rfl rfl ?_; intro _ hS))
    refine Cl.mono (hA2 hS) ?_
    rintro _ w4 (⟨-, rfl, hS'⟩ | ⟨-, a', c', L, rfl, -, hS'⟩)
    · have hS := hS.call0 hS'
      repeat (first | refine SemW.run tblOk ?_ | refine IntG.nw (by omega) ?_ | refine IntG.nu8 (by omega) ?_ | refine IntG.nu32 (by omega) ?_ | refine IntG.nu64 (by omega) ?_ | refine IntG.wr' rfl ?_ | refine Chk.mk (by omega) ?_ | (refine BrG.id ?_; first | with_reducible refine BrG.t ?_ | with_reducible refine BrG.f ?_ | with_reducible refine BrG.notG ?_ | with_reducible refine BrG.nn ?_ | with_reducible refine BrG.ns ?_ | refine BrG.pos (by omega) ?_ | refine BrG.neg (by omega) ?_ | with_reducible refine BrG.pos rfl ?_ | refine BrG.pos (by assumption) ?_ | refine BrG.neg (by assumption) ?_ | refine BrG.pos (by decide) ?_ | refine BrG.neg (by decide) ?_) | refine Chk.mk (ptr_ok tblOk rfl rfl) ?_ | refine Chk.mk (by decide) ?_ | refine hS.ld rfl ?_ | refine hS.ldn rfl ?_ | (refine hS.st rfl rfl ?_; intro _ hS))
      exact .inl ⟨fun h => hno h.1, rfl, hS.nil⟩
    · have hS := hS.callNew hS'
      repeat (first | refine SemW.run tblOk ?_ | refine IntG.nw (by omega) ?_ | refine IntG.nu8 (by omega) ?_ | refine IntG.nu32 (by omega) ?_ | refine IntG.nu64 (by omega) ?_ | refine IntG.wr' rfl ?_ | refine Chk.mk (by omega) ?_ | (refine BrG.id ?_; first | with_reducible refine BrG.t ?_ | with_reducible refine BrG.f ?_ | with_reducible refine BrG.notG ?_ | with_reducible refine BrG.nn ?_ | with_reducible refine BrG.ns ?_ | refine BrG.pos (by omega) ?_ | refine BrG.neg (by omega) ?_ | with_reducible refine BrG.pos rfl ?_ | refine BrG.pos (by assumption) ?_ | refine BrG.neg (by assumption) ?_ | refine BrG.pos (by decide) ?_ | refine BrG.neg (by decide) ?_) | refine Chk.mk (ptr_ok tblOk rfl rfl) ?_ | refine Chk.mk (by decide) ?_ | refine hS.ld rfl ?_ | refine hS.ldn rfl ?_ | (refine hS.st rfl rfl ?_; intro _ hS))
      exact .inl ⟨fun h => hno h.1, rfl, hS.nil⟩
  have hS := hS.callNew hS'
  repeat (first | refine SemW.run tblOk ?_ | refine IntG.nw (by omega) ?_ | refine IntG.nu8 (by omega) ?_ | refine IntG.nu32 (by omega) ?_ | refine IntG.nu64 (by omega) ?_ | refine IntG.wr' rfl ?_ | refine Chk.mk (by omega) ?_ | (refine BrG.id ?_; first | with_reducible refine BrG.t ?_ | with_reducible refine BrG.f ?_ | with_reducible refine BrG.notG ?_ | with_reducible refine BrG.nn ?_ | with_reducible refine BrG.ns ?_ | refine BrG.pos (by omega) ?_ | refine BrG.neg (by omega) ?_ | with_reducible refine BrG.pos rfl ?_ | refine BrG.pos (by assumption) ?_ | refine BrG.neg (by assumption) ?_ | refine BrG.pos (by decide) ?_ | refine BrG.neg (by decide) ?_) | refine Chk.mk (ptr_ok tblOk rfl rfl) ?_ | refine Chk.mk (by decide) ?_ | refine hS.ld rfl ?_ | refine hS.ldn rfl ?_ | (refine hS.st rfl rfl ?_; intro _ hS))
  refine Cl.mono (hA2 hS) ?_
  rintro _ w4 (⟨hno, rfl, hS'⟩ | ⟨hin2, a'', c'', L', rfl, hv2, hS'⟩)
  · have hS := hS.call0 hS'
    repeat (first | refine SemW.run tblOk ?_ | refine IntG.nw (by omega) ?_ | refine IntG.nu8 (by omega) ?_ | refine IntG.nu32 (by omega) ?_ | refine IntG.nu64 (by omega) ?_ | refine IntG.wr' rfl ?_ | refine Chk.mk (by omega) ?_ | (refine BrG.id ?_; first | with_reducible refine BrG.t ?_ | with_reducible refine BrG.f ?_ | with_reducible refine BrG.notG ?_ | with_reducible refine BrG.nn ?_ | with_reducible refine BrG.ns ?_ | refine BrG.pos (by omega) ?_ | refine BrG.neg (by omega) ?_ | with_reducible refine BrG.pos rfl ?_ | refine BrG.pos (by assumption) ?_ | refine BrG.neg (by assumption) ?_ | refine BrG.pos (by decide) ?_ | refine BrG.neg (by decide) ?_) | refine Chk.mk (ptr_ok tblOk rfl rfl) ?_ | refine Chk.mk (by decide) ?_ | refine hS.ld rfl ?_ | refine hS.ldn rfl ?_ | (refine hS.st rfl rfl ?_; intro _ hS))
    exact .inl ⟨fun h => hno h.2, rfl, hS.nil⟩
  have hS := hS.callNew hS'
  have hrA := vec_recs hS hv1 (recs_sorted hin1 hid1)
  have hrB := vec_recs hS hv2 (recs_sorted hin2 hid2)
  have hS0 := hS.nil
  clear hS hS' hv1 hv2 hA1 hA2
  have hS := St.start w4
  generalize recs s1 = A at hrA hn1 ⊢
  generalize recs s2 = B at hrB hn2 ⊢
  repeat (first | refine SemW.run tblOk ?_ | refine IntG.nw (by omega) ?_ | refine IntG.nu8 (by omega) ?_ | refine IntG.nu32 (by omega) ?_ | refine IntG.nu64 (by omega) ?_ | refine IntG.wr' rfl ?_ | refine Chk.mk (by omega) ?_ | (refine BrG.id ?_; first | with_reducible refine BrG.t ?_ | with_reducible refine BrG.f ?_ | with_reducible refine BrG.notG ?_ | with_reducible refine BrG.nn ?_ | with_reducible refine BrG.ns ?_ | refine BrG.pos (by omega) ?_ | refine BrG.neg (by omega) ?_ | with_reducible refine BrG.pos rfl ?_ | refine BrG.pos (by assumption) ?_ | refine BrG.neg (by assumption) ?_ | refine BrG.pos (by decide) ?_ | refine BrG.neg (by decide) ?_) | refine Chk.mk (ptr_ok tblOk rfl rfl) ?_ | refine Chk.mk (by decide) ?_)
  refine SemW.loop (fun x : D2 => [(6, .slice a' A.length c'), (8, .slice a'' B.length c''), (10, .slice x.a x.outs.length x.c), (35, .slice a'' B.length c''), (36, .int .i64 B.length), (37, .int .i64 x.k)])
    (fun x w' => x.k ≤ B.length ∧ x.outs.length ≤ x.k ∧ P1 A B x.k x.outs ∧ OpsAt w' x.a x.c x.outs ∧ St w4 [] [] w') (fun x => B.length - x.k) ⟨[], 0, none, 0⟩
    ⟨rfl, rfl, rfl, rfl, rfl, rfl, trivial⟩ ⟨Nat.zero_le _, Nat.le_refl _, fun o => by simp, ⟨Arr.nil _ _ _, .inl rfl, Nat.le_refl _, List.Pairwise.nil⟩, hS⟩ ?_
  clear hS
  rintro ⟨outs, k, ao, co⟩ w5 ⟨hk, hol, hP, hr, hS⟩
  simp only at hk hol hP hr hS ⊢
  have hS1 := hS0.call0 hS
  have hrA1 := hrA.keep hS
  have hrB1 := hrB.keep hS
  have hclB := recsC_len B
  have hS45 := hS
  clear hS
  have hS := St.start w5
  by_cases hkl : k < B.length
  · obtain ⟨g, off, hg, -, -⟩ := hrB1.arr.get (j := k * 3) (by omega)
    have hat := recsC_at B k hkl
    have hput := hP.put hkl
    have hskip := hP.skip hkl
    have hkeys := hP.keys hkl hrB.sorted
    generalize B[k] = y at hat hput hskip hkeys
    have hbarr := hrB1.arr
    subst hg
    repeat (first | refine SemW.run tblOk ?_ | refine IntG.nw (by omega) ?_ | refine IntG.nu8 (by omega) ?_ | refine IntG.nu32 (by omega) ?_ | refine IntG.nu64 (by omega) ?_ | refine IntG.wr' rfl ?_ | refine Chk.mk (by omega) ?_ | (refine BrG.id ?_; first | with_reducible refine BrG.t ?_ | with_reducible refine BrG.f ?_ | with_reducible refine BrG.notG ?_ | with_reducible refine BrG.nn ?_ | with_reducible refine BrG.ns ?_ | refine BrG.pos (by omega) ?_ | refine BrG.neg (by omega) ?_ | with_reducible refine BrG.pos rfl ?_ | refine BrG.pos (by assumption) ?_ | refine BrG.neg (by assumption) ?_ | refine BrG.pos (by decide) ?_ | refine BrG.neg (by decide) ?_) | refine Chk.mk (ptr_ok tblOk rfl rfl) ?_ | refine Chk.mk (by decide) ?_)
    refine Arr.ldn hS hbarr rfl (k := k * 3) hat rfl ?_
    unfold opC
    repeat (first | refine SemW.run tblOk ?_ | refine IntG.nw (by omega) ?_ | refine IntG.nu8 (by omega) ?_ | refine IntG.nu32 (by omega) ?_ | refine IntG.nu64 (by omega) ?_ | refine IntG.wr' rfl ?_ | refine Chk.mk (by omega) ?_ | (refine BrG.id ?_; first | with_reducible refine BrG.t ?_ | with_reducible refine BrG.f ?_ | with_reducible refine BrG.notG ?_ | with_reducible refine BrG.nn ?_ | with_reducible refine BrG.ns ?_ | refine BrG.pos (by omega) ?_ | refine BrG.neg (by omega) ?_ | with_reducible refine BrG.pos rfl ?_ | refine BrG.pos (by assumption) ?_ | refine BrG.neg (by assumption) ?_ | refine BrG.pos (by decide) ?_ | refine BrG.neg (by decide) ?_) | refine Chk.mk (ptr_ok tblOk rfl rfl) ?_ | refine Chk.mk (by decide) ?_)
    refine hS.al ?_
    intro b12 w6 _ hS
    repeat (first | refine SemW.run tblOk ?_ | refine IntG.nw (by omega) ?_ | refine IntG.nu8 (by omega) ?_ | refine IntG.nu32 (by omega) ?_ | refine IntG.nu64 (by omega) ?_ | refine IntG.wr' rfl ?_ | refine Chk.mk (by omega) ?_ | (refine BrG.id ?_; first | with_reducible refine BrG.t ?_ | with_reducible refine BrG.f ?_ | with_reducible refine BrG.notG ?_ | with_reducible refine BrG.nn ?_ | with_reducible refine BrG.ns ?_ | refine BrG.pos (by omega) ?_ | refine BrG.neg (by omega) ?_ | with_reducible refine BrG.pos rfl ?_ | refine BrG.pos (by assumption) ?_ | refine BrG.neg (by assumption) ?_ | refine BrG.pos (by decide) ?_ | refine BrG.neg (by decide) ?_) | refine Chk.mk (ptr_ok tblOk rfl rfl) ?_ | refine Chk.mk (by decide) ?_ | refine hS.ld rfl ?_ | refine hS.ldn rfl ?_ | (refine hS.st rfl rfl ?_; intro _ hS))
    refine Cl.mono (find22_spec (hS.arrOld hrA1.arr) y.1 (by omega)) ?_
    rintro _ w7 ⟨rfl, hS'⟩
    have hS := hS.call0 hS'
    cases hf : findR A y.1 with
    | none =>
      unfold foundV
      have hm : y ∉ A := fun h => find_none hf y h rfl
      repeat (first | refine SemW.run tblOk ?_ | refine IntG.nw (by omega) ?_ | refine IntG.nu8 (by omega) ?_ | refine IntG.nu32 (by omega) ?_ | refine IntG.nu64 (by omega) ?_ | refine IntG.wr' rfl ?_ | refine Chk.mk (by omega) ?_ | (refine BrG.id ?_; first | with_reducible refine BrG.t ?_ | with_reducible refine BrG.f ?_ | with_reducible refine BrG.notG ?_ | with_reducible refine BrG.nn ?_ | with_reducible refine BrG.ns ?_ | refine BrG.pos (by omega) ?_ | refine BrG.neg (by omega) ?_ | with_reducible refine BrG.pos rfl ?_ | refine BrG.pos (by assumption) ?_ | refine BrG.neg (by assumption) ?_ | refine BrG.pos (by decide) ?_ | refine BrG.neg (by decide) ?_) | refine Chk.mk (ptr_ok tblOk rfl rfl) ?_ | refine Chk.mk (by decide) ?_ | refine hS.ld rfl ?_ | refine hS.ldn rfl ?_ | (refine hS.st rfl rfl ?_; intro _ hS))
      refine hS.al ?_
      intro b13 w8 _ hS
      repeat (first | refine SemW.run tblOk ?_ | refine IntG.nw (by omega) ?_ | refine IntG.nu8 (by omega) ?_ | refine IntG.nu32 (by omega) ?_ | refine IntG.nu64 (by omega) ?_ | refine IntG.wr' rfl ?_ | refine Chk.mk (by omega) ?_ | (refine BrG.id ?_; first | with_reducible refine BrG.t ?_ | with_reducible refine BrG.f ?_ | with_reducible refine BrG.notG ?_ | with_reducible refine BrG.nn ?_ | with_reducible refine BrG.ns ?_ | refine BrG.pos (by omega) ?_ | refine BrG.neg (by omega) ?_ | with_reducible refine BrG.pos rfl ?_ | refine BrG.pos (by assumption) ?_ | refine BrG.neg (by assumption) ?_ | refine BrG.pos (by decide) ?_ | refine BrG.neg (by decide) ?_) | refine Chk.mk (ptr_ok tblOk rfl rfl) ?_ | refine Chk.mk (by decide) ?_ | refine hS.ld rfl ?_ | refine hS.ldn rfl ?_ | (refine hS.st rfl rfl ?_; intro _ hS))
      have hr := hr.keep hS
      refine Cl.mono (put22_spec (o := rop y) (low_high outs (rop y).1).symm (low_le outs (rop y).1) (high_gt hr.sorted (rop y).1) hr.arr hr.addr hr.cap (by omega)) ?_
      rintro _ w9 ⟨a9, c9, L9, rfl, hv9, hS'⟩
      have hS := hS.callNew hS'
      rw [show lowO outs (rop y).1 ++ [rop y] ++ highO outs (rop y).1 = insO outs (rop y) from rfl] at hv9
      rw [show lowO outs (rop y).1 ++ [rop y] ++ highO outs (rop y).1 = insO outs (rop y) from rfl]
      have hil := ins_len outs (rop y)
      repeat (first | refine SemW.run tblOk ?_ | refine IntG.nw (by omega) ?_ | refine IntG.nu8 (by omega) ?_ | refine IntG.nu32 (by omega) ?_ | refine IntG.nu64 (by omega) ?_ | refine IntG.wr' rfl ?_ | refine Chk.mk (by omega) ?_ | (refine BrG.id ?_; first | with_reducible refine BrG.t ?_ | with_reducible refine BrG.f ?_ | with_reducible refine BrG.notG ?_ | with_reducible refine BrG.nn ?_ | with_reducible refine BrG.ns ?_ | refine BrG.pos (by omega) ?_ | refine BrG.neg (by omega) ?_ | with_reducible refine BrG.pos rfl ?_ | refine BrG.pos (by assumption) ?_ | refine BrG.neg (by assumption) ?_ | refine BrG.pos (by decide) ?_ | refine BrG.neg (by decide) ?_) | refine Chk.mk (ptr_ok tblOk rfl rfl) ?_ | refine Chk.mk (by decide) ?_)
      exact ⟨⟨insO outs (rop y), k + 1, a9, c9⟩, ⟨rfl, rfl, rfl, rfl, rfl, rfl, trivial⟩, ⟨by simp only; omega, by simp only; omega, hput hm, ⟨hv9.arr hS (by simp), vec_addr hv9, hv9.cap, ins_sorted hr.sorted _ hkeys⟩, hS45.call0 hS.nil⟩, by simp only; omega⟩
    | some x =>
      obtain ⟨hxA, hxk⟩ := find_some hf
      unfold foundV opC
      repeat (first | refine SemW.run tblOk ?_ | refine IntG.nw (by omega) ?_ | refine IntG.nu8 (by omega) ?_ | refine IntG.nu32 (by omega) ?_ | refine IntG.nu64 (by omega) ?_ | refine IntG.wr' rfl ?_ | refine Chk.mk (by omega) ?_ | (refine BrG.id ?_; first | with_reducible refine BrG.t ?_ | with_reducible refine BrG.f ?_ | with_reducible refine BrG.notG ?_ | with_reducible refine BrG.nn ?_ | with_reducible refine BrG.ns ?_ | refine BrG.pos (by omega) ?_ | refine BrG.neg (by omega) ?_ | with_reducible refine BrG.pos rfl ?_ | refine BrG.pos (by assumption) ?_ | refine BrG.neg (by assumption) ?_ | refine BrG.pos (by decide) ?_ | refine BrG.neg (by decide) ?_) | refine Chk.mk (ptr_ok tblOk rfl rfl) ?_ | refine Chk.mk (by decide) ?_ | refine hS.ld rfl ?_ | refine hS.ldn rfl ?_ | (refine hS.st rfl rfl ?_; intro _ hS))
      refine hS.al ?_
      intro b13 w8 _ hS
      repeat (first | refine SemW.run tblOk ?_ | refine IntG.nw (by omega) ?_ | refine IntG.nu8 (by omega) ?_ | refine IntG.nu32 (by omega) ?_ | refine IntG.nu64 (by omega) ?_ | refine IntG.wr' rfl ?_ | refine Chk.mk (by omega) ?_ | (refine BrG.id ?_; first | with_reducible refine BrG.t ?_ | with_reducible refine BrG.f ?_ | with_reducible refine BrG.notG ?_ | with_reducible refine BrG.nn ?_ | with_reducible refine BrG.ns ?_ | refine BrG.pos (by omega) ?_ | refine BrG.neg (by omega) ?_ | with_reducible refine BrG.pos rfl ?_ | refine BrG.pos (by assumption) ?_ | refine BrG.neg (by assumption) ?_ | refine BrG.pos (by decide) ?_ | refine BrG.neg (by decide) ?_) | refine Chk.mk (ptr_ok tblOk rfl rfl) ?_ | refine Chk.mk (by decide) ?_ | refine hS.ld rfl ?_ | refine hS.ldn rfl ?_ | (refine hS.st rfl rfl ?_; intro _ hS))
      refine neqAgg (n := 3) (by omega) (by kernel_rfl) (eqOp x y) ?_
      by_cases hE : x = y
      · rw [decide_eq_true hE, Bool.not_true]
        repeat (first | refine SemW.run tblOk ?_ | refine IntG.nw (by omega) ?_ | refine IntG.nu8 (by omega) ?_ | refine IntG.nu32 (by omega) ?_ | refine IntG.nu64 (by omega) ?_ | refine IntG.wr' rfl ?_ | refine Chk.mk (by omega) ?_ | (refine BrG.id ?_; first | with_reducible refine BrG.t ?_ | with_reducible refine BrG.f ?_ | with_reducible refine BrG.notG ?_ | with_reducible refine BrG.nn ?_ | with_reducible refine BrG.ns ?_ | refine BrG.pos (by omega) ?_ | refine BrG.neg (by omega) ?_ | with_reducible refine BrG.pos rfl ?_ | refine BrG.pos (by assumption) ?_ | refine BrG.neg (by assumption) ?_ | refine BrG.pos (by decide) ?_ | refine BrG.neg (by decide) ?_) | refine Chk.mk (ptr_ok tblOk rfl rfl) ?_ | refine Chk.mk (by decide) ?_ | refine hS.ld rfl ?_ | refine hS.ldn rfl ?_ | (refine hS.st rfl rfl ?_; intro _ hS))
        exact ⟨⟨outs, k + 1, ao, co⟩, ⟨rfl, rfl, rfl, rfl, rfl, rfl, trivial⟩, ⟨by simp only; omega, by simp only; omega, hskip (hE ▸ hxA), hr.keep hS, hS45.call0 hS.nil⟩, by simp only; omega⟩
      · have hm : y ∉ A := fun h => hE (key_uniq hrA.sorted hxA h hxk)
        rw [decide_eq_false hE, Bool.not_false]
        repeat (first | refine SemW.run tblOk ?_ | refine IntG.nw (by omega) ?_ | refine IntG.nu8 (by omega) ?_ | refine IntG.nu32 (by omega) ?_ | refine IntG.nu64 (by omega) ?_ | refine IntG.wr' rfl ?_ | refine Chk.mk (by omega) ?_ | (refine BrG.id ?_; first | with_reducible refine BrG.t ?_ | with_reducible refine BrG.f ?_ | with_reducible refine BrG.notG ?_ | with_reducible refine BrG.nn ?_ | with_reducible refine BrG.ns ?_ | refine BrG.pos (by omega) ?_ | refine BrG.neg (by omega) ?_ | with_reducible refine BrG.pos rfl ?_ | refine BrG.pos (by assumption) ?_ | refine BrG.neg (by assumption) ?_ | refine BrG.pos (by decide) ?_ | refine BrG.neg (by decide) ?_) | refine Chk.mk (ptr_ok tblOk rfl rfl) ?_ | refine Chk.mk (by decide) ?_ | refine hS.ld rfl ?_ | refine hS.ldn rfl ?_ | (refine hS.st rfl rfl ?_; intro _ hS))
        have hr := hr.keep hS
        refine Cl.mono (put22_spec (o := rop y) (low_high outs (rop y).1).symm (low_le outs (rop y).1) (high_gt hr.sorted (rop y).1) hr.arr hr.addr hr.cap (by omega)) ?_
        rintro _ w9 ⟨a9, c9, L9, rfl, hv9, hS'⟩
        have hS := hS.callNew hS'
        rw [show lowO outs (rop y).1 ++ [rop y] ++ highO outs (rop y).1 = insO outs (rop y) from rfl] at hv9
        rw [show lowO outs (rop y).1 ++ [rop y] ++ highO outs (rop y).1 = insO outs (rop y) from rfl]
        have hil := ins_len outs (rop y)
        repeat (first | refine SemW.run tblOk ?_ | refine IntG.nw (by omega) ?_ | refine IntG.nu8 (by omega) ?_ | refine IntG.nu32 (by omega) ?_ | refine IntG.nu64 (by omega) ?_ | refine IntG.wr' rfl ?_ | refine Chk.mk (by omega) ?_ | (refine BrG.id ?_; first | with_reducible refine BrG.t ?_ | with_reducible refine BrG.f ?_ | with_reducible refine BrG.notG ?_ | with_reducible refine BrG.nn ?_ | with_reducible refine BrG.ns ?_ | refine BrG.pos (by omega) ?_ | refine BrG.neg (by omega) ?_ | with_reducible refine BrG.pos rfl ?_ | refine BrG.pos (by assumption) ?_ | refine BrG.neg (by assumption) ?_ | refine BrG.pos (by decide) ?_ | refine BrG.neg (by decide) ?_) | refine Chk.mk (ptr_ok tblOk rfl rfl) ?_ | refine Chk.mk (by decide) ?_)
        exact ⟨⟨insO outs (rop y), k + 1, a9, c9⟩, ⟨rfl, rfl, rfl, rfl, rfl, rfl, trivial⟩, ⟨by simp only; omega, by simp only; omega, hput hm, ⟨hv9.arr hS (by simp), vec_addr hv9, hv9.cap, ins_sorted hr.sorted _ hkeys⟩, hS45.call0 hS.nil⟩, by simp only; omega⟩
  · have hke : k = B.length := by omega
    subst hke
    have hP2 : P2 A B 0 outs := fun o => by rw [hP o, List.take_length]; simp
    clear hP
    have hol : outs.length ≤ B.length + 0 := hol
    repeat (first | refine SemW.run tblOk ?_ | refine IntG.nw (by omega) ?_ | refine IntG.nu8 (by omega) ?_ | refine IntG.nu32 (by omega) ?_ | refine IntG.nu64 (by omega) ?_ | refine IntG.wr' rfl ?_ | refine Chk.mk (by omega) ?_ | (refine BrG.id ?_; first | with_reducible refine BrG.t ?_ | with_reducible refine BrG.f ?_ | with_reducible refine BrG.notG ?_ | with_reducible refine BrG.nn ?_ | with_reducible refine BrG.ns ?_ | refine BrG.pos (by omega) ?_ | refine BrG.neg (by omega) ?_ | with_reducible refine BrG.pos rfl ?_ | refine BrG.pos (by assumption) ?_ | refine BrG.neg (by assumption) ?_ | refine BrG.pos (by decide) ?_ | refine BrG.neg (by decide) ?_) | refine Chk.mk (ptr_ok tblOk rfl rfl) ?_ | refine Chk.mk (by decide) ?_)
    refine SemW.loop (fun x : D2 => [(8, .slice a'' B.length c''), (10, .slice x.a x.outs.length x.c), (59, .slice a' A.length c'), (60, .int .i64 A.length), (61, .int .i64 x.k)])
      (fun x w' => x.k ≤ A.length ∧ x.outs.length ≤ B.length + x.k ∧ P2 A B x.k x.outs ∧ OpsAt w' x.a x.c x.outs ∧ St w4 [] [] w') (fun x => A.length - x.k) ⟨outs, 0, ao, co⟩
      ⟨rfl, rfl, rfl, rfl, rfl, trivial⟩ ⟨Nat.zero_le _, hol, hP2, hr, hS45⟩ ?_
    clear hS hS45 hS1 hrA1 hrB1 hr hP2 hol
    rintro ⟨outs, k, ao, co⟩ w5 ⟨hk, hol, hP, hr, hS⟩
    simp only at hk hol hP hr hS ⊢
    have hS1 := hS0.call0 hS
    have hrA1 := hrA.keep hS
    have hrB1 := hrB.keep hS
    have hclA := recsC_len A
    have hS45 := hS
    clear hS
    have hS := St.start w5
    by_cases hkl : k < A.length
    · obtain ⟨g, off, hg, -, -⟩ := hrA1.arr.get (j := k * 3) (by omega)
      have hat := recsC_at A k hkl
      have hput := hP.put hkl
      have hskip := fun {y : RecM} => hP.skip (y := y) hkl
      have hkeys := hP.keys hkl hrA.sorted
      generalize A[k] = x at hat hput hskip hkeys
      have hbarr := hrA1.arr
      subst hg
      repeat (first | refine SemW.run tblOk ?_ | refine IntG.nw (by omega) ?_ | refine IntG.nu8 (by omega) ?_ | refine IntG.nu32 (by omega) ?_ | refine IntG.nu64 (by omega) ?_ | refine IntG.wr' rfl ?_ | refine Chk.mk (by omega) ?_ | (refine BrG.id ?_; first | with_reducible refine BrG.t ?_ | with_reducible refine BrG.f ?_ | with_reducible refine BrG.notG ?_ | with_reducible refine BrG.nn ?_ | with_reducible refine BrG.ns ?_ | refine BrG.pos (by omega) ?_ | refine BrG.neg (by omega) ?_ | with_reducible refine BrG.pos rfl ?_ | refine BrG.pos (by assumption) ?_ | refine BrG.neg (by assumption) ?_ | refine BrG.pos (by decide) ?_ | refine BrG.neg (by decide) ?_) | refine Chk.mk (ptr_ok tblOk rfl rfl) ?_ | refine Chk.mk (by decide) ?_)
      refine Arr.ldn hS hbarr rfl (k := k * 3) hat rfl ?_
      unfold opC
      repeat (first | refine SemW.run tblOk ?_ | refine IntG.nw (by omega) ?_ | refine IntG.nu8 (by omega) ?_ | refine IntG.nu32 (by omega) ?_ | refine IntG.nu64 (by omega) ?_ | refine IntG.wr' rfl ?_ | refine Chk.mk (by omega) ?_ | (refine BrG.id ?_; first | with_reducible refine BrG.t ?_ | with_reducible refine BrG.f ?_ | with_reducible refine BrG.notG ?_ | with_reducible refine BrG.nn ?_ | with_reducible refine BrG.ns ?_ | refine BrG.pos (by omega) ?_ | refine BrG.neg (by omega) ?_ | with_reducible refine BrG.pos rfl ?_ | refine BrG.pos (by assumption) ?_ | refine BrG.neg (by assumption) ?_ | refine BrG.pos (by decide) ?_ | refine BrG.neg (by decide) ?_) | refine Chk.mk (ptr_ok tblOk rfl rfl) ?_ | refine Chk.mk (by decide) ?_)
      refine hS.al ?_
      intro b12 w6 _ hS
      repeat (first | refine SemW.run tblOk ?_ | refine IntG.nw (by omega) ?_ | refine IntG.nu8 (by omega) ?_ | refine IntG.nu32 (by omega) ?_ | refine IntG.nu64 (by omega) ?_ | refine IntG.wr' rfl ?_ | refine Chk.mk (by omega) ?_ | (refine BrG.id ?_; first | with_reducible refine BrG.t ?_ | with_reducible refine BrG.f ?_ | with_reducible refine BrG.notG ?_ | with_reducible refine BrG.nn ?_ | with_reducible refine BrG.ns ?_ | refine BrG.pos (by omega) ?_ | refine BrG.neg (by omega) ?_ | with_reducible refine BrG.pos rfl ?_ | refine BrG.pos (by assumption) ?_ | refine BrG.neg (by assumption) ?_ | refine BrG.pos (by decide) ?_ | refine BrG.neg (by decide) ?_) | refine Chk.mk (ptr_ok tblOk rfl rfl) ?_ | refine Chk.mk (by decide) ?_ | refine hS.ld rfl ?_ | refine hS.ldn rfl ?_ | (refine hS.st rfl rfl ?_; intro _ hS))
      refine Cl.mono (find22_spec (hS.arrOld hrB1.arr) x.1 (by omega)) ?_
      rintro _ w7 ⟨rfl, hS'⟩
      have hS := hS.call0 hS'
      cases hf : findR B x.1 with
      | none =>
        unfold foundV
        have hm := find_none hf
        repeat (first | refine SemW.run tblOk ?_ | refine IntG.nw (by omega) ?_ | refine IntG.nu8 (by omega) ?_ | refine IntG.nu32 (by omega) ?_ | refine IntG.nu64 (by omega) ?_ | refine IntG.wr' rfl ?_ | refine Chk.mk (by omega) ?_ | (refine BrG.id ?_; first | with_reducible refine BrG.t ?_ | with_reducible refine BrG.f ?_ | with_reducible refine BrG.notG ?_ | with_reducible refine BrG.nn ?_ | with_reducible refine BrG.ns ?_ | refine BrG.pos (by omega) ?_ | refine BrG.neg (by omega) ?_ | with_reducible refine BrG.pos rfl ?_ | refine BrG.pos (by assumption) ?_ | refine BrG.neg (by assumption) ?_ | refine BrG.pos (by decide) ?_ | refine BrG.neg (by decide) ?_) | refine Chk.mk (ptr_ok tblOk rfl rfl) ?_ | refine Chk.mk (by decide) ?_ | refine hS.ld rfl ?_ | refine hS.ldn rfl ?_ | (refine hS.st rfl rfl ?_; intro _ hS))
        refine hS.al ?_
        intro b13 w8 _ hS
        repeat (first | refine SemW.run tblOk ?_ | refine IntG.nw (by omega) ?_ | refine IntG.nu8 (by omega) ?_ | refine IntG.nu32 (by omega) ?_ | refine IntG.nu64 (by omega) ?_ | refine IntG.wr' rfl ?_ | refine Chk.mk (by omega) ?_ | (refine BrG.id ?_; first | with_reducible refine BrG.t ?_ | with_reducible refine BrG.f ?_ | with_reducible refine BrG.notG ?_ | with_reducible refine BrG.nn ?_ | with_reducible refine BrG.ns ?_ | refine BrG.pos (by omega) ?_ | refine BrG.neg (by omega) ?_ | with_reducible refine BrG.pos rfl ?_ | refine BrG.pos (by assumption) ?_ | refine BrG.neg (by assumption) ?_ | refine BrG.pos (by decide) ?_ | refine BrG.neg (by decide) ?_) | refine Chk.mk (ptr_ok tblOk rfl rfl) ?_ | refine Chk.mk (by decide) ?_ | refine hS.ld rfl ?_ | refine hS.ldn rfl ?_ | (refine hS.st rfl rfl ?_; intro _ hS))
        have hr := hr.keep hS
        refine Cl.mono (put22_spec (o := (x.1, true, [])) (low_high outs ((x.1, true, [])).1).symm (low_le outs ((x.1, true, [])).1) (high_gt hr.sorted ((x.1, true, [])).1) hr.arr hr.addr hr.cap (by omega)) ?_
        rintro _ w9 ⟨a9, c9, L9, rfl, hv9, hS'⟩
        have hS := hS.callNew hS'
        rw [show lowO outs ((x.1, true, [])).1 ++ [(x.1, true, [])] ++ highO outs ((x.1, true, [])).1 = insO outs ((x.1, true, [])) from rfl] at hv9
        rw [show lowO outs ((x.1, true, [])).1 ++ [(x.1, true, [])] ++ highO outs ((x.1, true, [])).1 = insO outs ((x.1, true, [])) from rfl]
        have hil := ins_len outs ((x.1, true, []))
        repeat (first | refine SemW.run tblOk ?_ | refine IntG.nw (by omega) ?_ | refine IntG.nu8 (by omega) ?_ | refine IntG.nu32 (by omega) ?_ | refine IntG.nu64 (by omega) ?_ | refine IntG.wr' rfl ?_ | refine Chk.mk (by omega) ?_ | (refine BrG.id ?_; first | with_reducible refine BrG.t ?_ | with_reducible refine BrG.f ?_ | with_reducible refine BrG.notG ?_ | with_reducible refine BrG.nn ?_ | with_reducible refine BrG.ns ?_ | refine BrG.pos (by omega) ?_ | refine BrG.neg (by omega) ?_ | with_reducible refine BrG.pos rfl ?_ | refine BrG.pos (by assumption) ?_ | refine BrG.neg (by assumption) ?_ | refine BrG.pos (by decide) ?_ | refine BrG.neg (by decide) ?_) | refine Chk.mk (ptr_ok tblOk rfl rfl) ?_ | refine Chk.mk (by decide) ?_)
        exact ⟨⟨insO outs (x.1, true, []), k + 1, a9, c9⟩, ⟨rfl, rfl, rfl, rfl, rfl, trivial⟩, ⟨by simp only; omega, by simp only; omega, hput hm, ⟨hv9.arr hS (by simp), vec_addr hv9, hv9.cap, ins_sorted hr.sorted _ (hkeys hm)⟩, hS45.call0 hS.nil⟩, by simp only; omega⟩
      | some y =>
        obtain ⟨hyB, hyk⟩ := find_some hf
        unfold foundV opC
        repeat (first | refine SemW.run tblOk ?_ | refine IntG.nw (by omega) ?_ | refine IntG.nu8 (by omega) ?_ | refine IntG.nu32 (by omega) ?_ | refine IntG.nu64 (by omega) ?_ | refine IntG.wr' rfl ?_ | refine Chk.mk (by omega) ?_ | (refine BrG.id ?_; first | with_reducible refine BrG.t ?_ | with_reducible refine BrG.f ?_ | with_reducible refine BrG.notG ?_ | with_reducible refine BrG.nn ?_ | with_reducible refine BrG.ns ?_ | refine BrG.pos (by omega) ?_ | refine BrG.neg (by omega) ?_ | with_reducible refine BrG.pos rfl ?_ | refine BrG.pos (by assumption) ?_ | refine BrG.neg (by assumption) ?_ | refine BrG.pos (by decide) ?_ | refine BrG.neg (by decide) ?_) | refine Chk.mk (ptr_ok tblOk rfl rfl) ?_ | refine Chk.mk (by decide) ?_ | refine hS.ld rfl ?_ | refine hS.ldn rfl ?_ | (refine hS.st rfl rfl ?_; intro _ hS))
        refine hS.al ?_
        intro b13 w8 _ hS
        repeat (first | refine SemW.run tblOk ?_ | refine IntG.nw (by omega) ?_ | refine IntG.nu8 (by omega) ?_ | refine IntG.nu32 (by omega) ?_ | refine IntG.nu64 (by omega) ?_ | refine IntG.wr' rfl ?_ | refine Chk.mk (by omega) ?_ | (refine BrG.id ?_; first | with_reducible refine BrG.t ?_ | with_reducible refine BrG.f ?_ | with_reducible refine BrG.notG ?_ | with_reducible refine BrG.nn ?_ | with_reducible refine BrG.ns ?_ | refine BrG.pos (by omega) ?_ | refine BrG.neg (by omega) ?_ | with_reducible refine BrG.pos rfl ?_ | refine BrG.pos (by assumption) ?_ | refine BrG.neg (by assumption) ?_ | refine BrG.pos (by decide) ?_ | refine BrG.neg (by decide) ?_) | refine Chk.mk (ptr_ok tblOk rfl rfl) ?_ | refine Chk.mk (by decide) ?_ | refine hS.ld rfl ?_ | refine hS.ldn rfl ?_ | (refine hS.st rfl rfl ?_; intro _ hS))
        exact ⟨⟨outs, k + 1, ao, co⟩, ⟨rfl, rfl, rfl, rfl, rfl, trivial⟩, ⟨by simp only; omega, by simp only; omega, hskip hyB hyk, hr.keep hS, hS45.call0 hS.nil⟩, by simp only; omega⟩
    · have hke : k = A.length := by omega
      subst hke
      have hD : outs = diffL A B := sorted_ext hr.sorted (diffL_sorted hrA.sorted hrB.sorted) fun o => by
        rw [hP o, List.take_length, diffL_mem hrA.sorted hrB.sorted]; rfl
      rw [← hD]
      repeat (first | refine SemW.run tblOk ?_ | refine IntG.nw (by omega) ?_ | refine IntG.nu8 (by omega) ?_ | refine IntG.nu32 (by omega) ?_ | refine IntG.nu64 (by omega) ?_ | refine IntG.wr' rfl ?_ | refine Chk.mk (by omega) ?_ | (refine BrG.id ?_; first | with_reducible refine BrG.t ?_ | with_reducible refine BrG.f ?_ | with_reducible refine BrG.notG ?_ | with_reducible refine BrG.nn ?_ | with_reducible refine BrG.ns ?_ | refine BrG.pos (by omega) ?_ | refine BrG.neg (by omega) ?_ | with_reducible refine BrG.pos rfl ?_ | refine BrG.pos (by assumption) ?_ | refine BrG.neg (by assumption) ?_ | refine BrG.pos (by decide) ?_ | refine BrG.neg (by decide) ?_) | refine Chk.mk (ptr_ok tblOk rfl rfl) ?_ | refine Chk.mk (by decide) ?_)
      exact .inr ⟨hin1, hin2, ao, co, rfl, hr.arr, hS1⟩
end Go.Proofs.YtlghahalejgkfaaDoor
