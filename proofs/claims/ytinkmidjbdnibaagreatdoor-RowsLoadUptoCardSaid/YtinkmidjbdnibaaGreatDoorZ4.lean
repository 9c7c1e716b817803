/- Texts of this claim, one behind the other. -/
import Derived.Test.YtinkmidjbdnibaaGreatDoorZ2
import Derived.Test.YtinkmidjbdnibaaGreatDoorZ3
import Derived.Test.YtinkmidjbdnibaaGreatDoorZ1
import Derived.Test.YtinkmidjbdnibaaGreatDoorZ0
import Derived.Lib.SliceRun
import Derived.Test.YtinkmidjbdnibaaGreatDoorRows
import Derived.Stop.LaidErr
import Derived.LaidLaws
namespace Go.Proofs.YtinkmidjbdnibaaGreatDoor
open Go Go.Eng Go.Proofs
theorem RSl.cellC {β : Type} {sz : Nat} {R : CellR β} {w0 : World} {a : Option Addr} {n cap : Nat} {xs : List β} (h : RSl sz R w0 [.slice a n cap] xs) {j : Nat} (hj : j < xs.length) :
    ∃ b off cs, a = some ⟨b, off, none⟩ ∧ R w0 cs xs[j] ∧ ∀ (H : Heap) (i q : Nat) (v : Value) (K : Value → Prop), cs[i]? = some v → q = off + j * sz + i → K v → LdC (fun w' => St w0 [] H w') ⟨b, q, none⟩ K := by
  obtain ⟨b, off, cs, h1, h2, h3, h4⟩ := h.at hj
  refine ⟨b, off, cs, h1, h4, fun H i q v K hi hq hK => ⟨⟨v, fun w' h' => ?_, hK⟩⟩⟩
  have := h'.oldCell (by simp) (h3 i v hi)
  rw [← Nat.add_assoc, ← hq] at this
  exact this
theorem rises_of {α : Type} {l : List α} {id : α → Int} (h : ∀ i (h1 : i + 1 < l.length), id l[i] < id l[i + 1]) : Rises (l.map id) := fun i h1 => by
  simp only [List.length_map] at h1
  simp only [List.getElem_map]
  exact h i h1
theorem rises_at {α : Type} {l : List α} {id : α → Int} (h : Rises (l.map id)) (i : Nat) (h1 : i + 1 < l.length) : id l[i] < id l[i + 1] := by
  have := h i (by simpa using h1)
  simpa using this
set_option maxHeartbeats 8000000 in
theorem Form22_spec {w : World} {s : StateM} {a b c : Option Addr} {ca cb cc : Nat} (hs : StateAt w s a b c ca cb cc) :
    Cl Tryz.prog f_tarmacref22_Form [.agg ⟨stV s a b c ca cb cc⟩] w fun v w' => (∃ bv : Bool, v = .bool bv ∧ (bv = true ↔ InForm s)) ∧ St w [] [] w' := by
  have hS := St.start w
  have hbulk := hs.bulk
  have hge := sum_ge s.eqs
  unfold stV
  refine en_tarmacref22_Form rfl ?_
  refine jq ⟨?_⟩
  refine hS.al ?_
  intro b1 w1 _ hS
  (repeat (refine jt ⟨?_⟩; refine hS.st rfl rfl ?_; intro _ hS)); refine jt ⟨?_⟩
  refine SemW.loop (fun k : Nat => [(1, ptr b1), (9, .int .i64 s.eqs.length), (10, .int .i64 k)])
    (fun k w' => k ≤ s.eqs.length ∧ (∀ i (h1 : i + 1 < s.eqs.length), i + 1 < k → s.eqs[i].id < s.eqs[i + 1].id) ∧ St w [] [(b1, .cells ⟨stV s a b c ca cb cc⟩ T_api_State (0, 0))] w') (fun k => s.eqs.length - k) 0
    ⟨rfl, rfl, rfl, trivial⟩ ⟨Nat.zero_le _, fun i _ h => by omega, hS⟩ ?_
  clear hS
  rintro k w2 ⟨hk, hup, hS⟩
  unfold stV at hS
  have hnext : (∀ i (h1 : i + 1 < s.eqs.length), i + 1 = k → s.eqs[i].id < s.eqs[i + 1].id) → ∀ i (h1 : i + 1 < s.eqs.length), i + 1 < k + 1 → s.eqs[i].id < s.eqs[i + 1].id := fun h i h1 h2 => by
    by_cases hik : i + 1 = k
    · exact h i h1 hik
    · exact hup i h1 (by omega)
  by_cases hkl : k < s.eqs.length
  · rcases Nat.eq_zero_or_pos k with hk0 | hk0
    · refine jq ⟨?_⟩
      refine SemW.draw tblOk mixed (fun w' => St w [] [(b1, .cells ⟨stV s a b c ca cb cc⟩ T_api_State (0, 0))] w') [] [0, 1, 2, 3, 4, 5, 6, 7, 8, 9, 10, 11, 12, 13, 14, 15, 16, 17] (by kernel_rfl) hS.drew ?_
      have hS := hS.drew
      generalize w2.drew = w2 at hS
      refine jr ⟨?_⟩
      exact ⟨k + 1, ⟨rfl, rfl, rfl, trivial⟩, ⟨by omega, hnext (fun i _ h => by omega), hS⟩, by omega⟩
    · obtain ⟨m, rfl⟩ : ∃ m, k = m + 1 := ⟨k - 1, by omega⟩
      obtain ⟨g, off, cs1, hg, hr1, hld1⟩ := RSl.cellC hs.eqs (show m < s.eqs.length by omega)
      obtain ⟨g', off', cs2, hg', hr2, hld2⟩ := RSl.cellC hs.eqs hkl
      have hne : ¬ s.eqs[m].id < s.eqs[m + 1].id → ¬ InForm s := fun h hf => h (rises_at hf.eqs m hkl)
      have hnx : s.eqs[m].id < s.eqs[m + 1].id → ∀ i (h1 : i + 1 < s.eqs.length), i + 1 < m + 1 + 1 → s.eqs[i].id < s.eqs[i + 1].id := fun h => hnext (fun i h1 h2 => by
        have : i = m := by omega
        subst this; exact h)
      generalize s.eqs[m] = x at hr1 hne hnx
      generalize s.eqs[m + 1] = y at hr2 hne hnx
      obtain ⟨v1, rfl, -⟩ := hr1
      obtain ⟨v2, rfl, -⟩ := hr2
      subst hg
      simp only [Option.some.injEq, Addr.mk.injEq, and_true] at hg'
      obtain ⟨rfl, rfl⟩ := hg'
      refine jq ⟨?_⟩
      refine SemW.draw tblOk mixed (fun w' => St w [] [(b1, .cells ⟨stV s (some ⟨g, off, none⟩) b c ca cb cc⟩ T_api_State (0, 0))] w') [] [0, 1, 2, 3, 4, 5, 6, 7, 8, 9, 10, 11, 12, 13, 14, 15, 16, 17] (by kernel_rfl) hS.drew ?_
      have hS := hS.drew
      generalize w2.drew = w2 at hS
      refine jr ⟨?_⟩
      rw [show (((m + 1 : Nat) : Int) - 1) = (m : Int) by omega]
      refine jr ⟨?_⟩
      refine hld1 _ 0 _ _ _ rfl (by simp) ?_
      refine jr ⟨?_⟩
      refine hld2 _ 0 _ _ _ rfl (by simp) ?_
      by_cases hxy : x.id < y.id
      · refine jr ⟨?_⟩
        exact ⟨m + 1 + 1, ⟨rfl, rfl, rfl, trivial⟩, ⟨by omega, hnx hxy, hS⟩, by omega⟩
      · refine jr ⟨?_⟩
        refine ⟨⟨false, rfl, ?_⟩, hS.nil⟩
        simp only [Bool.false_eq_true, false_iff]
        exact hne hxy
  · have hup1 : Rises (s.eqs.map (fun x => x.id)) := rises_of fun i h1 => hup i h1 (by omega)
    clear hup hnext
    (repeat (refine jt ⟨?_⟩; refine hS.st rfl rfl ?_; intro _ hS)); refine jt ⟨?_⟩
    refine SemW.loop (fun k : Nat => [(1, ptr b1), (34, .int .i64 s.fls.length), (35, .int .i64 k)])
      (fun k w' => k ≤ s.fls.length ∧ (∀ i (h1 : i + 1 < s.fls.length), i + 1 < k → s.fls[i].id < s.fls[i + 1].id) ∧ St w [] [(b1, .cells ⟨stV s a b c ca cb cc⟩ T_api_State (0, 0))] w') (fun k => s.fls.length - k) 0
      ⟨rfl, rfl, rfl, trivial⟩ ⟨Nat.zero_le _, fun i _ h => by omega, hS⟩ ?_
    clear hS
    rintro k w2 ⟨hk, hup, hS⟩
    unfold stV at hS
    have hnext : (∀ i (h1 : i + 1 < s.fls.length), i + 1 = k → s.fls[i].id < s.fls[i + 1].id) → ∀ i (h1 : i + 1 < s.fls.length), i + 1 < k + 1 → s.fls[i].id < s.fls[i + 1].id := fun h i h1 h2 => by
      by_cases hik : i + 1 = k
      · exact h i h1 hik
      · exact hup i h1 (by omega)
    by_cases hkl : k < s.fls.length
    · rcases Nat.eq_zero_or_pos k with hk0 | hk0
      · refine jq ⟨?_⟩
        refine SemW.draw tblOk mixed (fun w' => St w [] [(b1, .cells ⟨stV s a b c ca cb cc⟩ T_api_State (0, 0))] w') [] [0, 1, 2, 3, 4, 5, 6, 7, 8, 9, 10, 11, 12, 13, 14, 15, 16, 17] (by kernel_rfl) hS.drew ?_
        have hS := hS.drew
        generalize w2.drew = w2 at hS
        refine jr ⟨?_⟩
        exact ⟨k + 1, ⟨rfl, rfl, rfl, trivial⟩, ⟨by omega, hnext (fun i _ h => by omega), hS⟩, by omega⟩
      · obtain ⟨m, rfl⟩ : ∃ m, k = m + 1 := ⟨k - 1, by omega⟩
        obtain ⟨g, off, cs1, hg, hr1, hld1⟩ := RSl.cellC hs.fls (show m < s.fls.length by omega)
        obtain ⟨g', off', cs2, hg', hr2, hld2⟩ := RSl.cellC hs.fls hkl
        have hne : ¬ s.fls[m].id < s.fls[m + 1].id → ¬ InForm s := fun h hf => h (rises_at hf.fls m hkl)
        have hnx : s.fls[m].id < s.fls[m + 1].id → ∀ i (h1 : i + 1 < s.fls.length), i + 1 < m + 1 + 1 → s.fls[i].id < s.fls[i + 1].id := fun h => hnext (fun i h1 h2 => by
          have : i = m := by omega
          subst this; exact h)
        generalize s.fls[m] = x at hr1 hne hnx
        generalize s.fls[m + 1] = y at hr2 hne hnx
        obtain ⟨rfl, -⟩ := hr1
        obtain ⟨rfl, -⟩ := hr2
        subst hg
        simp only [Option.some.injEq, Addr.mk.injEq, and_true] at hg'
        obtain ⟨rfl, rfl⟩ := hg'
        refine jq ⟨?_⟩
        refine SemW.draw tblOk mixed (fun w' => St w [] [(b1, .cells ⟨stV s a (some ⟨g, off, none⟩) c ca cb cc⟩ T_api_State (0, 0))] w') [] [0, 1, 2, 3, 4, 5, 6, 7, 8, 9, 10, 11, 12, 13, 14, 15, 16, 17] (by kernel_rfl) hS.drew ?_
        have hS := hS.drew
        generalize w2.drew = w2 at hS
        refine jr ⟨?_⟩
        rw [show (((m + 1 : Nat) : Int) - 1) = (m : Int) by omega]
        refine jr ⟨?_⟩
        refine hld1 _ 0 _ _ _ rfl (by simp) ?_
        refine jr ⟨?_⟩
        refine hld2 _ 0 _ _ _ rfl (by simp) ?_
        by_cases hxy : x.id < y.id
        · refine jr ⟨?_⟩
          exact ⟨m + 1 + 1, ⟨rfl, rfl, rfl, trivial⟩, ⟨by omega, hnx hxy, hS⟩, by omega⟩
        · refine jr ⟨?_⟩
          refine ⟨⟨false, rfl, ?_⟩, hS.nil⟩
          simp only [Bool.false_eq_true, false_iff]
          exact hne hxy
    · have hup2 : Rises (s.fls.map (fun x => x.id)) := rises_of fun i h1 => hup i h1 (by omega)
      clear hup hnext
      (repeat (refine jt ⟨?_⟩; refine hS.st rfl rfl ?_; intro _ hS)); refine jt ⟨?_⟩
      refine SemW.loop (fun k : Nat => [(1, ptr b1), (58, .slice c s.pxs.length cc), (59, .int .i64 s.pxs.length), (60, .int .i64 k)])
        (fun k w' => k ≤ s.pxs.length ∧ (∀ i (h1 : i + 1 < s.pxs.length), i + 1 < k → s.pxs[i].id < s.pxs[i + 1].id) ∧ (∀ i (h : i < s.pxs.length), i < k → seatFine s.pxs[i]) ∧ St w [] [(b1, .cells ⟨stV s a b c ca cb cc⟩ T_api_State (0, 0))] w') (fun k => s.pxs.length - k) 0
        ⟨rfl, rfl, rfl, rfl, trivial⟩ ⟨Nat.zero_le _, fun i _ h => by omega, fun i _ h => by omega, hS⟩ ?_
      clear hS
      rintro k w2 ⟨hk, hup, hfine, hS⟩
      unfold stV at hS
      by_cases hkl : k < s.pxs.length
      · obtain ⟨g, off, cs, hg, ⟨rfl, hp⟩, hld⟩ := RSl.ldn hS.nil hs.pxs hkl
        have hnf : seatFine s.pxs[k] → ∀ i (h : i < s.pxs.length), i < k + 1 → seatFine s.pxs[i] := fun h i h1 h2 => by
          by_cases hik : i = k
          · subst hik; exact h
          · exact hfine i h1 (by omega)
        have hnof : ¬ seatFine s.pxs[k] → ¬ InForm s := fun h hi => h (hi.seats _ (List.getElem_mem hkl))
        have hpc := hp.c
        have hd := labelB_dash s.pxs[k].num s.pxs[k].c
        subst hg
        rcases Nat.eq_zero_or_pos k with hk0 | hk0
        · have hnu : ∀ i (h1 : i + 1 < s.pxs.length), i + 1 < k + 1 → s.pxs[i].id < s.pxs[i + 1].id := fun i h1 h2 => by omega
          generalize s.pxs[k] = p at hp hld hnf hnof hpc hd
          refine jq ⟨?_⟩
          refine hld _ ?_
          unfold paxC
          refine jq ⟨?_⟩
          refine hS.al ?_
          intro b6 w3 _ hS
          (repeat (refine jt ⟨?_⟩; refine hS.st rfl rfl ?_; intro _ hS)); refine jt ⟨?_⟩
          rename_i w4
          have hS : St w [] [(b6, .cells ⟨paxC p⟩ T_api_Pax (0, 0)), (b1, .cells ⟨stV s a b (some ⟨g, off, none⟩) ca cb cc⟩ T_api_State (0, 0))] w4 := hS
          refine SemW.draw tblOk mixed (fun w' => St w [] [(b6, .cells ⟨paxC p⟩ T_api_Pax (0, 0)), (b1, .cells ⟨stV s a b (some ⟨g, off, none⟩) ca cb cc⟩ T_api_State (0, 0))] w') [22, 23, 24, 25] [0, 1, 2, 3, 4, 5, 6, 7, 8, 9, 10, 11, 12, 13, 14, 15, 16, 17, 18, 19, 20, 21, 22, 23, 24, 25] (by kernel_rfl) hS.drew ?_
          have hS := hS.drew
          generalize w4.drew = w4 at hS
          refine jr ⟨?_⟩
          refine neqAgg (n := 2) (by omega) (by kernel_rfl) (eqSeat p.num p.c 0 0) ?_
          by_cases hz : p.num = 0 ∧ p.c = 0
          · rw [decide_eq_true hz, Bool.not_true]
            refine jr ⟨?_⟩
            exact ⟨k + 1, ⟨rfl, rfl, rfl, rfl, trivial⟩, ⟨by omega, hnu, hnf (.inl hz), hS.sub (List.sublist_cons_self _ _)⟩, by omega⟩
          · rw [decide_eq_false hz, Bool.not_false]
            refine jr ⟨?_⟩
            refine Cl.mono (R13Label_spec p.num p.c hpc) ?_
            rintro _ w5 ⟨rfl, hS'⟩
            have hS := hS.call0 hS'
            by_cases hok : seatOk p.num p.c = true
            · have hne : ¬ labelB p.num p.c = [45] := fun h => by rw [hd.1 h] at hok; cases hok
              refine jr ⟨?_⟩
              exact ⟨k + 1, ⟨rfl, rfl, rfl, rfl, trivial⟩, ⟨by omega, hnu, hnf (.inr hok), hS.sub (List.sublist_cons_self _ _)⟩, by omega⟩
            · have hne : labelB p.num p.c = [45] := hd.2 (by simpa using hok)
              refine jr ⟨?_⟩
              refine ⟨⟨false, rfl, ?_⟩, hS.nil⟩
              simp only [Bool.false_eq_true, false_iff]
              exact hnof (fun h => h.elim hz hok)
        · obtain ⟨m, rfl⟩ : ∃ m, k = m + 1 := ⟨k - 1, by omega⟩
          obtain ⟨g', off', cs1, hg', ⟨rfl, -⟩, hld1⟩ := RSl.cellC hs.pxs (show m < s.pxs.length by omega)
          simp only [Option.some.injEq, Addr.mk.injEq, and_true] at hg'
          obtain ⟨rfl, rfl⟩ := hg'
          have hne : ¬ s.pxs[m].id < s.pxs[m + 1].id → ¬ InForm s := fun h hf => h (rises_at hf.pxs m hkl)
          have hnu : s.pxs[m].id < s.pxs[m + 1].id → ∀ i (h1 : i + 1 < s.pxs.length), i + 1 < m + 1 + 1 → s.pxs[i].id < s.pxs[i + 1].id := fun h i h1 h2 => by
            by_cases hik : i + 1 = m + 1
            · have : i = m := by omega
              subst this; exact h
            · exact hup i h1 (by omega)
          generalize s.pxs[m] = x at hne hnu hld1
          generalize s.pxs[m + 1] = p at hp hld hnf hnof hpc hd hne hnu
          by_cases hxy : x.id < p.id
          · have hnu := hnu hxy
            refine jq ⟨?_⟩
            refine hld _ ?_
            unfold paxC
            refine jq ⟨?_⟩
            refine hS.al ?_
            intro b6 w3 _ hS
            (repeat (refine jt ⟨?_⟩; refine hS.st rfl rfl ?_; intro _ hS)); refine jt ⟨?_⟩
            rename_i w4
            have hS : St w [] [(b6, .cells ⟨paxC p⟩ T_api_Pax (0, 0)), (b1, .cells ⟨stV s a b (some ⟨g, off, none⟩) ca cb cc⟩ T_api_State (0, 0))] w4 := hS
            refine SemW.draw tblOk mixed (fun w' => St w [] [(b6, .cells ⟨paxC p⟩ T_api_Pax (0, 0)), (b1, .cells ⟨stV s a b (some ⟨g, off, none⟩) ca cb cc⟩ T_api_State (0, 0))] w') [22, 23, 24, 25] [0, 1, 2, 3, 4, 5, 6, 7, 8, 9, 10, 11, 12, 13, 14, 15, 16, 17, 18, 19, 20, 21, 22, 23, 24, 25] (by kernel_rfl) hS.drew ?_
            have hS := hS.drew
            generalize w4.drew = w4 at hS
            refine jr ⟨?_⟩
            rw [show (((m + 1 : Nat) : Int) - 1) = (m : Int) by omega]
            refine jr ⟨?_⟩
            refine hld1 _ 0 _ _ _ rfl (by simp) ?_
            refine jr ⟨?_⟩
            refine neqAgg (n := 2) (by omega) (by kernel_rfl) (eqSeat p.num p.c 0 0) ?_
            by_cases hz : p.num = 0 ∧ p.c = 0
            · rw [decide_eq_true hz, Bool.not_true]
              refine jr ⟨?_⟩
              exact ⟨m + 1 + 1, ⟨rfl, rfl, rfl, rfl, trivial⟩, ⟨by omega, hnu, hnf (.inl hz), hS.sub (List.sublist_cons_self _ _)⟩, by omega⟩
            · rw [decide_eq_false hz, Bool.not_false]
              refine jr ⟨?_⟩
              refine Cl.mono (R13Label_spec p.num p.c hpc) ?_
              rintro _ w5 ⟨rfl, hS'⟩
              have hS := hS.call0 hS'
              by_cases hok : seatOk p.num p.c = true
              · have hne : ¬ labelB p.num p.c = [45] := fun h => by rw [hd.1 h] at hok; cases hok
                refine jr ⟨?_⟩
                exact ⟨m + 1 + 1, ⟨rfl, rfl, rfl, rfl, trivial⟩, ⟨by omega, hnu, hnf (.inr hok), hS.sub (List.sublist_cons_self _ _)⟩, by omega⟩
              · have hne : labelB p.num p.c = [45] := hd.2 (by simpa using hok)
                refine jr ⟨?_⟩
                refine ⟨⟨false, rfl, ?_⟩, hS.nil⟩
                simp only [Bool.false_eq_true, false_iff]
                exact hnof (fun h => h.elim hz hok)
          · refine jq ⟨?_⟩
            refine hld _ ?_
            unfold paxC
            refine jq ⟨?_⟩
            refine hS.al ?_
            intro b6 w3 _ hS
            (repeat (refine jt ⟨?_⟩; refine hS.st rfl rfl ?_; intro _ hS)); refine jt ⟨?_⟩
            rename_i w4
            have hS : St w [] [(b6, .cells ⟨paxC p⟩ T_api_Pax (0, 0)), (b1, .cells ⟨stV s a b (some ⟨g, off, none⟩) ca cb cc⟩ T_api_State (0, 0))] w4 := hS
            refine SemW.draw tblOk mixed (fun w' => St w [] [(b6, .cells ⟨paxC p⟩ T_api_Pax (0, 0)), (b1, .cells ⟨stV s a b (some ⟨g, off, none⟩) ca cb cc⟩ T_api_State (0, 0))] w') [22, 23, 24, 25] [0, 1, 2, 3, 4, 5, 6, 7, 8, 9, 10, 11, 12, 13, 14, 15, 16, 17, 18, 19, 20, 21, 22, 23, 24, 25] (by kernel_rfl) hS.drew ?_
            have hS := hS.drew
            generalize w4.drew = w4 at hS
            refine jr ⟨?_⟩
            rw [show (((m + 1 : Nat) : Int) - 1) = (m : Int) by omega]
            refine jr ⟨?_⟩
            refine hld1 _ 0 _ _ _ rfl (by simp) ?_
            refine jr ⟨?_⟩
            refine ⟨⟨false, rfl, ?_⟩, hS.nil⟩
            simp only [Bool.false_eq_true, false_iff]
            exact hne hxy
      · have hup3 : Rises (s.pxs.map (fun x => x.id)) := rises_of fun i h1 => hup i h1 (by omega)
        refine jq ⟨?_⟩
        refine ⟨⟨true, rfl, fun _ => ⟨fun p hp => ?_, hup1, hup2, hup3⟩, fun _ => rfl⟩, hS.nil⟩
        obtain ⟨i, hi, rfl⟩ := List.mem_iff_getElem.1 hp
        exact hfine i hi (by omega)
set_option maxHeartbeats 8000000 in
theorem All22_spec {w : World} {s : StateM} {a b c : Option Addr} {ca cb cc : Nat} (hs : StateAt w s a b c ca cb cc) :
    Cl Tryz.prog f_tarmacref22_All [.agg ⟨stV s a b c ca cb cc⟩] w fun v w' => (¬ InForm s ∧ v = .tuple ⟨[.slice none 0 0, .int .i64 36]⟩ ∧ St w [] [] w') ∨
      (InForm s ∧ ∃ a' c' L, v = .tuple ⟨[.slice a' (recs s).length c', .int .i64 0]⟩ ∧ Vec T_api_Op 3 a' (recs s).length c' ((recs s).flatMap opC) L ∧ St w [] L w') := by
  have hS := St.start w
  have hbulk := hs.bulk
  have hge := sum_ge s.eqs
  unfold stV
  refine en_tarmacref22_All rfl ?_
  refine jq ⟨?_⟩
  refine hS.al ?_
  intro b1 w1 _ hS
  (repeat (refine jt ⟨?_⟩; refine hS.st rfl rfl ?_; intro _ hS)); refine jt ⟨?_⟩
  rename_i w2
  refine Cl.mono (Form22_spec (hs.keep hS)) ?_
  rintro _ w3 ⟨⟨bv, rfl, hbv⟩, hS'⟩
  have hS := hS.call0 hS'
  cases bv with
  | false =>
    (repeat (refine jt ⟨?_⟩; refine hS.st rfl rfl ?_; intro _ hS)); refine jt ⟨?_⟩
    exact .inl ⟨fun h => (by have := hbv.2 h; cases this), rfl, hS.nil⟩
  | true =>
    have hIn := hbv.1 rfl
    have hS : St w [] [(b1, .cells ⟨stV s a b c ca cb cc⟩ T_api_State (0, 0))] w3 := hS
    have hS0 : St w [] ([] ++ [(b1, .cells ⟨stV s a b c ca cb cc⟩ T_api_State (0, 0))]) w3 := hS
    have hv0 : Vec T_api_Op 3 none 0 0 [] [] := Vec.nil
    unfold stV at hS
    (repeat (refine jt ⟨?_⟩; refine hS.st rfl rfl ?_; intro _ hS)); refine jt ⟨?_⟩
    obtain ⟨pre1, hp1⟩ : ∃ pre : List RecM, pre = [] := ⟨_, rfl⟩
    have hl1 : pre1.length = 0 := by rw [hp1]; rfl
    obtain ⟨pre2, hp2⟩ : ∃ pre : List RecM, pre = s.eqs.map eqRec := ⟨_, rfl⟩
    have hl2 : pre2.length = s.eqs.length := by rw [hp2]; simp
    obtain ⟨pre3, hp3⟩ : ∃ pre : List RecM, pre = pre2 ++ s.fls.map flRec := ⟨_, rfl⟩
    have hl3 : pre3.length = s.eqs.length + s.fls.length := by rw [hp3]; simp [hl2]
    have hv0 : Vec T_api_Op 3 none (pre1.length + 0) 0 ((pre1 ++ (s.eqs.take 0).map eqRec).flatMap opC) [] := by rw [hl1, hp1]; exact hv0
    rw [show Value.slice none 0 0 = Value.slice none (pre1.length + 0) 0 by rw [hl1]]
    refine SemW.loop (fun x : Nat × Option Addr × Nat => [(1, ptr b1), (4, .slice x.2.1 (pre1.length + x.1) x.2.2), (15, .slice a s.eqs.length ca), (16, .int .i64 s.eqs.length), (17, .int .i64 x.1)])
      (fun x w' => x.1 ≤ s.eqs.length ∧ ∃ L, Vec T_api_Op 3 x.2.1 (pre1.length + x.1) x.2.2 ((pre1 ++ (s.eqs.take x.1).map eqRec).flatMap opC) L ∧ St w [] (L ++ [(b1, .cells ⟨stV s a b c ca cb cc⟩ T_api_State (0, 0))]) w') (fun x => s.eqs.length - x.1) (0, none, 0)
      ⟨rfl, rfl, rfl, rfl, rfl, trivial⟩ ⟨Nat.zero_le _, _, by simpa using hv0, hS0⟩ ?_
    clear hS hS0 hS' hv0
    rintro ⟨k, a1, c1⟩ w4 ⟨hk, L1, hv, hS⟩
    simp only at hk hv hS ⊢
    by_cases hkl : k < s.eqs.length
    · obtain ⟨g, off, cs, hg, hR, hld⟩ := RSl.ldn hS.nil hs.eqs hkl
      have hsucc := recs_succ pre1 s.eqs eqRec k hkl
      have hat := sum_at s.eqs k hkl
      generalize s.eqs[k] = e at hR hsucc hat
      obtain ⟨v, rfl, hid, hrows⟩ := hR
      obtain ⟨a3, c3, rfl, -, -, hrows⟩ := hrows.inv
      have hok : ∀ r ∈ e.rows, r.ok := fun r hr => by obtain ⟨cs, h⟩ := hrows.mem hr; exact h.2
      subst hg
      refine jq ⟨?_⟩
      refine hld _ ?_
      refine jq ⟨?_⟩
      refine hS.al ?_
      intro b6 w5 _ hS
      (repeat (refine jt ⟨?_⟩; refine hS.st rfl rfl ?_; intro _ hS)); refine jt ⟨?_⟩
      rename_i w6
      have hS : St w [] ((b6, .cells ⟨[.int .i64 e.id, .slice a3 e.rows.length c3]⟩ T_api_Equip (0, 0)) :: (L1 ++ [(b1, .cells ⟨stV s (some ⟨g, off, none⟩) b c ca cb cc⟩ T_api_State (0, 0))])) w6 := hS
      refine SemW.draw tblOk mixed (fun w' => St w [] ((b6, .cells ⟨[.int .i64 e.id, .slice a3 e.rows.length c3]⟩ T_api_Equip (0, 0)) :: (L1 ++ [(b1, .cells ⟨stV s (some ⟨g, off, none⟩) b c ca cb cc⟩ T_api_State (0, 0))])) w') [9, 10] [0, 1, 2, 4, 5, 3, 6, 7, 8, 9, 10] (by kernel_rfl) hS.drew ?_
      have hS := hS.drew
      generalize w6.drew = w6 at hS
      refine jr ⟨?_⟩
      refine Cl.mono (Key22_spec 101 (by decide) e.id hid) ?_
      rintro _ w7 ⟨rfl, hS'⟩
      have hS := hS.call0 hS'
      refine Chk.mk hS ?_
      refine jr ⟨?_⟩
      refine Cl.mono (rows22_spec (RSl.keep hS.nil (fun _ _ h => h) hrows) hok (by omega)) ?_
      rintro _ w8 ⟨rfl, hS'⟩
      have hS := hS.call0 hS'
      refine Chk.mk hS ?_
      refine jr ⟨?_⟩
      refine hS.al ?_
      intro r w9 _ hS
      refine Chk.mk (hS.sub (List.sublist_cons_self _ _)) ?_
      refine jr ⟨?_⟩
      refine St.app (sz := 3) (m := 1) tblOk rfl rfl rfl rfl hS hv (news := opC (eqRec e)) rfl (by have := hS.arr (b := r) (T' := []) (by simp); exact this) rfl (by show (_ + _) * 40 ≤ _; omega) (by omega) ?_
      intro a4 c4 L4 w10 hv hS
      rw [← hsucc] at hv
      refine jq ⟨?_⟩
      exact ⟨(k + 1, a4, c4), ⟨rfl, rfl, rfl, rfl, rfl, trivial⟩, ⟨by simp only; omega, L4, hv, hS.sub ((List.sublist_cons_self _ _).trans (List.sublist_cons_self _ _))⟩, by simp only; omega⟩
    · have hke : k = s.eqs.length := by omega
      subst hke
      rw [List.take_length] at hv
      have hS0 := hS
      unfold stV at hS
      have hv0 := hv
      have hS' := hS
      rw [hp1, List.nil_append, ← hp2] at hv0
      have en : pre1.length + s.eqs.length = pre2.length + 0 := by omega
      rw [← hp1, en] at hv0
      rw [en]
      (repeat (refine jt ⟨?_⟩; refine hS.st rfl rfl ?_; intro _ hS)); refine jt ⟨?_⟩
      have hv0 : Vec T_api_Op 3 a1 (pre2.length + 0) c1 ((pre2 ++ (s.fls.take 0).map flRec).flatMap opC) L1 := by simpa using hv0
      refine SemW.loop (fun x : Nat × Option Addr × Nat => [(1, ptr b1), (4, .slice x.2.1 (pre2.length + x.1) x.2.2), (33, .slice b s.fls.length cb), (34, .int .i64 s.fls.length), (35, .int .i64 x.1)])
        (fun x w' => x.1 ≤ s.fls.length ∧ ∃ L, Vec T_api_Op 3 x.2.1 (pre2.length + x.1) x.2.2 ((pre2 ++ (s.fls.take x.1).map flRec).flatMap opC) L ∧ St w [] (L ++ [(b1, .cells ⟨stV s a b c ca cb cc⟩ T_api_State (0, 0))]) w') (fun x => s.fls.length - x.1) (0, a1, c1)
        ⟨rfl, rfl, rfl, rfl, rfl, trivial⟩ ⟨Nat.zero_le _, _, by simpa using hv0, hS0⟩ ?_
      clear hS hS0 hS' hv0
      rintro ⟨k, a1, c1⟩ w4 ⟨hk, L1, hv, hS⟩
      simp only at hk hv hS ⊢
      by_cases hkl : k < s.fls.length
      · obtain ⟨g, off, cs, hg, hR, hld⟩ := RSl.ldn hS.nil hs.fls hkl
        have hsucc := recs_succ pre2 s.fls flRec k hkl
        generalize s.fls[k] = e at hR hsucc
        obtain ⟨rfl, hok⟩ := hR
        subst hg
        refine jq ⟨?_⟩
        refine hld _ ?_
        refine jq ⟨?_⟩
        refine hS.al ?_
        intro b6 w5 _ hS
        (repeat (refine jt ⟨?_⟩; refine hS.st rfl rfl ?_; intro _ hS)); refine jt ⟨?_⟩
        rename_i w6
        have hS : St w [] ((b6, .cells ⟨flC e⟩ T_api_Flight (0, 0)) :: (L1 ++ [(b1, .cells ⟨stV s a (some ⟨g, off, none⟩) c ca cb cc⟩ T_api_State (0, 0))])) w6 := hS
        refine SemW.draw tblOk mixed (fun w' => St w [] ((b6, .cells ⟨flC e⟩ T_api_Flight (0, 0)) :: (L1 ++ [(b1, .cells ⟨stV s a (some ⟨g, off, none⟩) c ca cb cc⟩ T_api_State (0, 0))])) w') [8, 9] [0, 1, 2, 4, 3, 5, 6, 7, 8, 9] (by kernel_rfl) hS.drew ?_
        have hS := hS.drew
        generalize w6.drew = w6 at hS
        refine jr ⟨?_⟩
        refine Cl.mono (Key22_spec 102 (by decide) e.id hok.id) ?_
        rintro _ w7 ⟨rfl, hS'⟩
        have hS := hS.call0 hS'
        refine Chk.mk hS ?_
        refine jr ⟨?_⟩
        refine Cl.mono (flight22_spec e hok) ?_
        rintro _ w8 ⟨rfl, hS'⟩
        have hS := hS.call0 hS'
        refine Chk.mk hS ?_
        refine jr ⟨?_⟩
        refine hS.al ?_
        intro r w9 _ hS
        refine Chk.mk (hS.sub (List.sublist_cons_self _ _)) ?_
        refine jr ⟨?_⟩
        refine St.app (sz := 3) (m := 1) tblOk rfl rfl rfl rfl hS hv (news := opC (flRec e)) rfl (by have := hS.arr (b := r) (T' := []) (by simp); exact this) rfl (by show (_ + _) * 40 ≤ _; omega) (by omega) ?_
        intro a4 c4 L4 w10 hv hS
        rw [← hsucc] at hv
        refine jq ⟨?_⟩
        exact ⟨(k + 1, a4, c4), ⟨rfl, rfl, rfl, rfl, rfl, trivial⟩, ⟨by simp only; omega, L4, hv, hS.sub ((List.sublist_cons_self _ _).trans (List.sublist_cons_self _ _))⟩, by simp only; omega⟩
      · have hke : k = s.fls.length := by omega
        subst hke
        rw [List.take_length] at hv
        have hS0 := hS
        unfold stV at hS
        have hv0 := hv
        have hS' := hS
        rw [← hp3] at hv0
        have en : pre2.length + s.fls.length = pre3.length + 0 := by omega
        rw [en] at hv0
        rw [en]
        (repeat (refine jt ⟨?_⟩; refine hS.st rfl rfl ?_; intro _ hS)); refine jt ⟨?_⟩
        have hv0 : Vec T_api_Op 3 a1 (pre3.length + 0) c1 ((pre3 ++ (s.pxs.take 0).map pxRec).flatMap opC) L1 := by simpa using hv0
        refine SemW.loop (fun x : Nat × Option Addr × Nat => [(1, ptr b1), (4, .slice x.2.1 (pre3.length + x.1) x.2.2), (50, .slice c s.pxs.length cc), (51, .int .i64 s.pxs.length), (52, .int .i64 x.1)])
          (fun x w' => x.1 ≤ s.pxs.length ∧ ∃ L, Vec T_api_Op 3 x.2.1 (pre3.length + x.1) x.2.2 ((pre3 ++ (s.pxs.take x.1).map pxRec).flatMap opC) L ∧ St w [] (L ++ [(b1, .cells ⟨stV s a b c ca cb cc⟩ T_api_State (0, 0))]) w') (fun x => s.pxs.length - x.1) (0, a1, c1)
          ⟨rfl, rfl, rfl, rfl, rfl, trivial⟩ ⟨Nat.zero_le _, _, by simpa using hv0, hS0⟩ ?_
        clear hS hS0 hS' hv0
        rintro ⟨k, a1, c1⟩ w4 ⟨hk, L1, hv, hS⟩
        simp only at hk hv hS ⊢
        by_cases hkl : k < s.pxs.length
        · obtain ⟨g, off, cs, hg, hR, hld⟩ := RSl.ldn hS.nil hs.pxs hkl
          have hsucc := recs_succ pre3 s.pxs pxRec k hkl
          generalize s.pxs[k] = e at hR hsucc
          obtain ⟨rfl, hok⟩ := hR
          subst hg
          refine jq ⟨?_⟩
          refine hld _ ?_
          refine jq ⟨?_⟩
          refine hS.al ?_
          intro b6 w5 _ hS
          (repeat (refine jt ⟨?_⟩; refine hS.st rfl rfl ?_; intro _ hS)); refine jt ⟨?_⟩
          rename_i w6
          have hS : St w [] ((b6, .cells ⟨paxC e⟩ T_api_Pax (0, 0)) :: (L1 ++ [(b1, .cells ⟨stV s a b (some ⟨g, off, none⟩) ca cb cc⟩ T_api_State (0, 0))])) w6 := hS
          refine SemW.draw tblOk mixed (fun w' => St w [] ((b6, .cells ⟨paxC e⟩ T_api_Pax (0, 0)) :: (L1 ++ [(b1, .cells ⟨stV s a b (some ⟨g, off, none⟩) ca cb cc⟩ T_api_State (0, 0))])) w') [8, 9] [0, 1, 2, 4, 3, 5, 6, 7, 8, 9] (by kernel_rfl) hS.drew ?_
          have hS := hS.drew
          generalize w6.drew = w6 at hS
          refine jr ⟨?_⟩
          refine Cl.mono (Key22_spec 112 (by decide) e.id hok.id) ?_
          rintro _ w7 ⟨rfl, hS'⟩
          have hS := hS.call0 hS'
          refine Chk.mk hS ?_
          refine jr ⟨?_⟩
          refine Cl.mono (pax22_spec e hok) ?_
          rintro _ w8 ⟨rfl, hS'⟩
          have hS := hS.call0 hS'
          refine Chk.mk hS ?_
          refine jr ⟨?_⟩
          refine hS.al ?_
          intro r w9 _ hS
          refine Chk.mk (hS.sub (List.sublist_cons_self _ _)) ?_
          refine jr ⟨?_⟩
          refine St.app (sz := 3) (m := 1) tblOk rfl rfl rfl rfl hS hv (news := opC (pxRec e)) rfl (by have := hS.arr (b := r) (T' := []) (by simp); exact this) rfl (by show (_ + _) * 40 ≤ _; omega) (by omega) ?_
          intro a4 c4 L4 w10 hv hS
          rw [← hsucc] at hv
          refine jq ⟨?_⟩
          exact ⟨(k + 1, a4, c4), ⟨rfl, rfl, rfl, rfl, rfl, trivial⟩, ⟨by simp only; omega, L4, hv, hS.sub ((List.sublist_cons_self _ _).trans (List.sublist_cons_self _ _))⟩, by simp only; omega⟩
        · have hke : k = s.pxs.length := by omega
          subst hke
          rw [List.take_length] at hv
          have hS0 := hS
          unfold stV at hS
          have hv0 := hv
          have hS' := hS
          have er : pre3 ++ s.pxs.map pxRec = recs s := by rw [hp3, hp2]; rfl
          have en : pre3.length + s.pxs.length = (recs s).length := by rw [← er]; simp
          rw [er, en] at hv0
          rw [en]
          refine jq ⟨?_⟩
          exact .inr ⟨hIn, a1, c1, L1, rfl, hv0, hS.sub (List.sublist_append_left _ _)⟩
set_option maxHeartbeats 4000000 in
theorem Same22_spec {w : World} {a b : Option Addr} {ca cb : Nat} {l m : List OpM} (ha : Arr w [] a (l.flatMap opDC)) (hb : Arr w [] b (m.flatMap opDC)) (hl : l.length ≤ 1099511627776) (hm : m.length ≤ 1099511627776) :
    Cl Tryz.prog f_tarmacref22_Same [.slice a l.length ca, .slice b m.length cb] w fun v w' => v = .bool (decide (l = m)) ∧ St w [] [] w' := by
  have hS := St.start w
  refine en_tarmacref22_Same rfl ?_
  by_cases hn : l.length = m.length
  · refine jq ⟨?_⟩
    refine SemW.loop (fun k : Nat => [(0, .slice a l.length ca), (1, .slice b m.length cb), (12, .int .i64 l.length), (13, .int .i64 k)])
      (fun k w' => k ≤ l.length ∧ (∀ i (h1 : i < l.length) (h2 : i < m.length), i < k → l[i] = m[i]) ∧ St w [] [] w') (fun k => l.length - k) 0
      ⟨rfl, rfl, rfl, rfl, trivial⟩ ⟨Nat.zero_le _, fun i _ _ h => by omega, hS⟩ ?_
    clear hS
    rintro k w1 ⟨hk, heq, hS⟩
    by_cases hkl : k < l.length
    · have hkm : k < m.length := by omega
      have hcl := opsC_len l
      have hcm := opsC_len m
      obtain ⟨g, off, rfl, -, -⟩ := ha.get (j := k * 3) (by omega)
      obtain ⟨g', off', rfl, -, -⟩ := hb.get (j := k * 3) (by omega)
      have hat := opsC_at l k hkl
      have hbt := opsC_at m k hkm
      have hnext : l[k] = m[k] → ∀ i (h1 : i < l.length) (h2 : i < m.length), i < k + 1 → l[i] = m[i] := fun h i h1 h2 h3 => by
        by_cases hik : i = k
        · subst hik; exact h
        · exact heq i h1 h2 (by omega)
      have hno : ¬ l[k] = m[k] → ¬ l = m := fun h he => h (by subst he; rfl)
      generalize l[k] = x at hat hnext hno
      generalize m[k] = y at hbt hnext hno
      refine jq ⟨?_⟩
      refine SemW.draw tblOk mixed (fun w' => St w [] [] w') [] [0, 1, 2, 3, 4, 5, 6, 7, 8] (by kernel_rfl) hS.drew ?_
      have hS := hS.drew
      generalize w1.drew = w1 at hS
      refine jr ⟨?_⟩
      refine Arr.ldnC ha hat rfl rfl ?_
      refine jr ⟨?_⟩
      refine Arr.ldnC hb hbt rfl rfl ?_
      refine jr ⟨?_⟩
      refine neqAgg (n := 3) (by omega) (by kernel_rfl) (eqOpD x y) ?_
      by_cases hE : x = y
      · rw [decide_eq_true hE, Bool.not_true]
        refine jr ⟨?_⟩
        exact ⟨k + 1, ⟨rfl, rfl, rfl, rfl, trivial⟩, ⟨by omega, hnext hE, hS⟩, by omega⟩
      · rw [decide_eq_false hE, Bool.not_false]
        refine jr ⟨?_⟩
        exact ⟨by rw [decide_eq_false (hno hE)], hS⟩
    · refine jq ⟨?_⟩
      refine ⟨?_, hS⟩
      have : l = m := eq_from hn fun i h1 h2 => heq i h1 h2 (by omega)
      rw [decide_eq_true this]
  · refine jq ⟨?_⟩
    refine ⟨?_, hS⟩
    have : ¬ l = m := fun h => hn (by rw [h])
    rw [decide_eq_false this]
end Go.Proofs.YtinkmidjbdnibaaGreatDoor
namespace Go.Eng
open Go
section
variable {β : Type} {sz : Nat} {cv : β → List Value}
theorem flat_lenE (hc : ∀ x, (cv x).length = sz) (l : List β) : (l.flatMap cv).length = l.length * sz := by
  induction l with
  | nil => simp
  | cons p ps ih => rw [List.flatMap_cons, List.length_append, ih, hc, List.length_cons, Nat.add_mul, Nat.one_mul]; omega
theorem flat_splitE (P S : List β) (x : β) : (P ++ x :: S).flatMap cv = P.flatMap cv ++ (cv x ++ S.flatMap cv) := by simp
theorem flat_atE (hc : ∀ x, (cv x).length = sz) (l : List β) (tail : List Value) (k : Nat) (hk : k < l.length) : ((l.flatMap cv ++ tail).drop (k * sz)).take sz = cv l[k] := by
  obtain ⟨P, x, S, e1, e2, e3⟩ := Srt.cut_at hk
  rw [e3]
  rw [e1, flat_splitE, List.append_assoc]
  have hp : k * sz = (P.flatMap cv).length := by rw [flat_lenE hc, e2]
  rw [hp, List.drop_left, List.append_assoc]
  exact List.take_left' (hc x)
theorem flat_setE (hc : ∀ x, (cv x).length = sz) (l : List β) (tail : List Value) (k : Nat) (hk : k < l.length) (y : β) : splice (l.flatMap cv ++ tail) (k * sz) (cv y) = (l.set k y).flatMap cv ++ tail := by
  obtain ⟨P, x, S, e1, e2, e3⟩ := Srt.cut_at hk
  have hp : k * sz = (P.flatMap cv).length := by rw [flat_lenE hc, e2]
  have e4 : l.set k y = P ++ y :: S := by
    rw [e1, ← e2, List.set_append_right _ _ (Nat.le_refl _), Nat.sub_self]; rfl
  rw [e4, e1, flat_splitE, flat_splitE]
  unfold splice
  rw [hp]
  have e5 : (P.flatMap cv).length + (cv y).length = (P.flatMap cv ++ cv x).length := by rw [List.length_append, hc, hc]
  rw [e5]
  have e6 : P.flatMap cv ++ (cv x ++ S.flatMap cv) ++ tail = (P.flatMap cv ++ cv x) ++ (S.flatMap cv ++ tail) := by simp
  rw [show List.take (P.flatMap cv).length (P.flatMap cv ++ (cv x ++ S.flatMap cv) ++ tail) = P.flatMap cv by rw [List.append_assoc, List.take_left]]
  rw [e6, List.drop_left]
  simp
variable {w0 w : World} {T : List Nat} {H : Heap} {g : Nat} {l : List β} {tail : List Value} {t : TypeId} {F : Obj → Heap}
theorem St.ldE (hc : ∀ x, (cv x).length = sz) (hS : St w0 T H w) [Slot H g (.cells ⟨l.flatMap cv ++ tail⟩ t (0, 0)) F] {k q : Nat} (hk : k < l.length) (hq : q = k * sz) {K : List Value → Prop} (hK : K (cv l[k])) : LdN (fun w' => w = w') sz g q K := by
  refine ⟨⟨_, hc _, fun _ e j v hv => ?_, hK⟩⟩
  subst e
  have hat := flat_atE hc l tail k hk
  refine hS.cell ?_
  rw [← hat, List.getElem?_take] at hv
  split at hv
  · rw [List.getElem?_drop] at hv; rw [hq]; exact hv
  · cases hv
theorem St.ldEC (hc : ∀ x, (cv x).length = sz) (_hS : St w0 T H w) [Slot H g (.cells ⟨l.flatMap cv ++ tail⟩ t (0, 0)) F] {k q : Nat} (hk : k < l.length) (hq : q = k * sz) {K : List Value → Prop} (hK : K (cv l[k])) : LdN (fun w' => St w0 T H w') sz g q K := by
  refine ⟨⟨_, hc _, fun _ h j v hv => ?_, hK⟩⟩
  have hat := flat_atE hc l tail k hk
  refine h.cell ?_
  rw [← hat, List.getElem?_take] at hv
  split at hv
  · rw [List.getElem?_drop] at hv; rw [hq]; exact hv
  · cases hv
theorem St.stE (hc : ∀ x, (cv x).length = sz) (h1 : ∀ x, (cv x).all Value.oneCell' = true) (hS : St w0 T H w) [Slot H g (.cells ⟨l.flatMap cv ++ tail⟩ t (0, 0)) F] {k q : Nat} (hk : k < l.length) (hq : q = k * sz) {y : β}
    {K : World → Prop} (hK : ∀ w', St w0 T (F (.cells ⟨(l.set k y).flatMap cv ++ tail⟩ t (0, 0))) w' → K w') : StG w g q (cv y) K := by
  have hle : (k + 1) * sz ≤ l.length * sz := Nat.mul_le_mul_right _ hk
  have hfit : k * sz + (cv y).length ≤ (l.flatMap cv ++ tail).length := by
    rw [List.length_append, flat_lenE hc, hc]
    rw [Nat.add_mul, Nat.one_mul] at hle; omega
  subst hq
  refine ⟨⟨_, t, (0, 0), hS.mem, .inl (Nat.zero_le _), hfit, fun v h => List.all_eq_true.1 (h1 y) v h, ?_⟩⟩
  rw [flat_setE hc l tail k hk y]
  exact hK _ (hS.setRow (l := l.flatMap cv ++ tail))
theorem St.call1 {w' : World} {o : Obj} {L' : Heap} (hS : St w0 T [(g, o)] w) (h : St w [g] L' w') : St w0 T L' w' := hS.call (L := [(g, o)]) h
end
theorem IntG.half {z r : Int} {K : Value → Prop} (h0 : 0 ≤ z ∧ z ≤ 9223372036854775807) (hr : z / 2 = r) (hk : K (.int .i64 r)) : IntG .i64 (z.fdiv (2 ^ (min (Int.toNat 1) (IntKind.bits .u64)))) K := by
  have e : (2 : Int) ^ (min (Int.toNat 1) (IntKind.bits .u64)) = 2 := by decide
  rw [e, Int.fdiv_eq_ediv_of_nonneg _ (by decide), hr]
  exact IntG.nw (by omega) hk
end Go.Eng
namespace Go.Proofs.YtinkmidjbdnibaaGreatDoor
open Go Go.Eng Go.Proofs Go.Srt
def opDV (o : OpM) : Value := .agg ⟨opDC o⟩
set_option maxHeartbeats 4000000 in
theorem swapRange_api_Op {w : World} {g cap len : Nat} {a b n : Int} {l P A Q B S : List OpM} {tail : List Value} {F : Value} (hh : Holds [(g, .cells ⟨l.flatMap opDC ++ tail⟩ T_api_Op (0, 0))] w) (hl : l = P ++ A ++ Q ++ B ++ S) (hAB : A.length = B.length) (hlL : l.length = len) (hlen : len ≤ 16777216) (ha : a = P.length) (hb : b = P.length + A.length + Q.length) (hn : n = A.length) :
    Cl Tryz.prog f_slices_swapRangeCmpFunc_api_Op [.slice (some ⟨g, 0, none⟩) len cap, .int .i64 a, .int .i64 b, .int .i64 n, F] w fun _ w' => St w [g] [(g, .cells ⟨(P ++ B ++ Q ++ A ++ S).flatMap opDC ++ tail⟩ T_api_Op (0, 0))] w' := by
  have hS : St w [g] [(g, .cells ⟨l.flatMap opDC ++ tail⟩ T_api_Op (0, 0))] w := St.enter hh
  have hll : l.length = P.length + A.length + Q.length + B.length + S.length := by rw [hl]; simp only [List.length_append]
  refine en_slices_swapRangeCmpFunc_api_Op rfl ?_
  refine jq ⟨?_⟩
  refine SemW.loop (fun k : Nat => [(0, .slice (some ⟨g, 0, none⟩) len cap), (1, .int .i64 a), (2, .int .i64 b), (3, .int .i64 n), (10, .int .i64 k)])
    (fun k w' => k ≤ A.length ∧ St w [g] [(g, .cells ⟨(rg P A Q B S k).flatMap opDC ++ tail⟩ T_api_Op (0, 0))] w') (fun k => A.length - k) 0
    ⟨rfl, rfl, rfl, rfl, rfl, trivial⟩ ⟨Nat.zero_le _, by rw [rg_zero, ← hl]; exact hS⟩ ?_
  clear hS
  rintro k w1 ⟨hk, hS⟩
  have hrl := rg_len (P := P) (Q := Q) (S := S) (k := k) hAB
  by_cases hkl : k < A.length
  · have hi : P.length + k < (rg P A Q B S k).length := by omega
    have hj : P.length + A.length + Q.length + k < (rg P A Q B S k).length := by omega
    have hsw := rg_swp hAB hkl hi hj rfl rfl
    refine jq ⟨?_⟩
    refine SemW.draw tblOk mixed (fun w' => St w [g] [(g, .cells ⟨(rg P A Q B S k).flatMap opDC ++ tail⟩ T_api_Op (0, 0))] w') [4, 5, 6, 7, 21, 22, 23] [4, 5, 6, 7, 0, 1, 2, 3, 8, 9, 10, 11, 12, 13, 14, 15, 16, 17, 18, 19, 20, 21, 22, 23] (by kernel_rfl) hS.drew ?_
    have hS := hS.drew
    refine jr ⟨?_⟩
    refine St.ldEC (sz := 3) (fun _ => rfl) hS hj ?_ ?_
    · omega
    refine jr ⟨?_⟩
    refine St.ldEC (sz := 3) (fun _ => rfl) hS hi ?_ ?_
    · omega
    refine jr ⟨?_⟩
    refine St.stE (sz := 3) (fun _ => rfl) (fun _ => rfl) hS hi ?_ ?_
    · omega
    intro w2 hS
    refine jr ⟨?_⟩
    refine St.stE (sz := 3) (fun _ => rfl) (fun _ => rfl) hS (k := P.length + A.length + Q.length + k) (by rw [List.length_set]; exact hj) ?_ ?_
    · omega
    intro w3 hS
    simp only [hsw] at hS
    refine jq ⟨?_⟩
    exact ⟨k + 1, ⟨rfl, rfl, rfl, rfl, rfl, trivial⟩, ⟨by omega, hS⟩, by omega⟩
  · refine jq ⟨?_⟩
    rw [rg_full hAB (by omega)] at hS
    exact hS
structure RT_api_Op where
  P : List OpM
  U : List OpM
  V : List OpM
  S : List OpM
set_option maxHeartbeats 4000000 in
theorem rotate_api_Op {w : World} {g cap len : Nat} {a m b : Int} {l P U V S : List OpM} {tail : List Value} {F : Value} (hh : Holds [(g, .cells ⟨l.flatMap opDC ++ tail⟩ T_api_Op (0, 0))] w) (hl : l = P ++ U ++ V ++ S) (hlL : l.length = len) (hlen : len ≤ 16777216) (ha : a = P.length) (hm : m = P.length + U.length) (hb : b = P.length + U.length + V.length) (hU : 0 < U.length) (hV : 0 < V.length) :
    Cl Tryz.prog f_slices_rotateCmpFunc_api_Op [.slice (some ⟨g, 0, none⟩) len cap, .int .i64 a, .int .i64 m, .int .i64 b, F] w fun _ w' => St w [g] [(g, .cells ⟨(P ++ V ++ U ++ S).flatMap opDC ++ tail⟩ T_api_Op (0, 0))] w' := by
  have hS : St w [g] [(g, .cells ⟨l.flatMap opDC ++ tail⟩ T_api_Op (0, 0))] w := St.enter hh
  have hll : l.length = P.length + U.length + V.length + S.length := by rw [hl]; simp only [List.length_append]
  refine en_slices_rotateCmpFunc_api_Op rfl ?_
  refine jq ⟨?_⟩
  refine SemW.loop (fun x : RT_api_Op => [(0, .slice (some ⟨g, 0, none⟩) len cap), (2, .int .i64 m), (4, F), (10, .int .i64 x.U.length), (11, .int .i64 x.V.length)])
    (fun x w' => (P ++ V ++ U ++ S = x.P ++ x.V ++ x.U ++ x.S ∧ m = x.P.length + x.U.length ∧ 0 < x.U.length ∧ 0 < x.V.length) ∧ St w [g] [(g, .cells ⟨(x.P ++ x.U ++ x.V ++ x.S).flatMap opDC ++ tail⟩ T_api_Op (0, 0))] w') (fun x => x.U.length + x.V.length) ⟨P, U, V, S⟩
    ⟨rfl, rfl, rfl, by show _ = Value.int .i64 _; congr 1; simp only; omega, by show _ = Value.int .i64 _; congr 1; simp only; omega, trivial⟩ ⟨⟨rfl, hm, hU, hV⟩, by rw [← hl]; exact hS⟩ ?_
  clear hS
  rintro ⟨P1, U1, V1, S1⟩ w1 ⟨⟨hT, hm1, hU1, hV1⟩, hS⟩
  simp only at hT hm1 hU1 hV1 hS ⊢
  have hl1 : (P1 ++ U1 ++ V1 ++ S1).length = len := by
    have := congrArg List.length hT
    simp only [List.length_append] at this ⊢; omega
  have hl2 : (P1 ++ U1 ++ V1 ++ S1).length = P1.length + U1.length + V1.length + S1.length := by simp only [List.length_append]
  by_cases hne : U1.length = V1.length
  · refine jq ⟨?_⟩
    refine (swapRange_api_Op hS.holds (Q := []) (A := U1) (B := V1) (P := P1) (S := S1) (by rw [List.append_nil]) hne hl1 hlen (by omega) (by simp only [List.length_nil]; omega) rfl).mono ?_
    intro _ w2 hS'
    have hS := hS.call1 hS'
    rw [List.append_nil, ← hT] at hS
    refine jq ⟨?_⟩
    exact hS
  · by_cases hgt : V1.length < U1.length
    · obtain ⟨X, Y, hXY, hX⟩ : ∃ X Y, U1 = X ++ Y ∧ X.length = V1.length := ⟨U1.take V1.length, U1.drop V1.length, (List.take_append_drop _ _).symm, by rw [List.length_take]; omega⟩
      have hY : U1.length = V1.length + Y.length := by rw [hXY, List.length_append, hX]
      refine jq ⟨?_⟩
      refine (swapRange_api_Op hS.holds (Q := Y) (A := X) (B := V1) (P := P1) (S := S1) (by rw [hXY]; simp only [List.append_assoc]) hX hl1 hlen (by omega) (by omega) (by omega)).mono ?_
      intro _ w2 hS'
      have hS := hS.call1 hS'
      refine jq ⟨?_⟩
      refine ⟨⟨P1 ++ V1, Y, X, S1⟩, ⟨rfl, rfl, rfl, by show _ = Value.int .i64 _; congr 1; simp only; omega, by show _ = Value.int .i64 _; congr 1; simp only; omega, trivial⟩, ⟨⟨by rw [hT, hXY]; simp only [List.append_assoc], by simp only [List.length_append]; omega, by simp only; omega, by simp only; omega⟩, hS⟩, by simp only; omega⟩
    · obtain ⟨X, Y, hXY, hY⟩ : ∃ X Y, V1 = X ++ Y ∧ Y.length = U1.length := ⟨V1.take (V1.length - U1.length), V1.drop (V1.length - U1.length), (List.take_append_drop _ _).symm, by rw [List.length_drop]; omega⟩
      have hX : V1.length = X.length + U1.length := by rw [hXY, List.length_append, hY]
      refine jq ⟨?_⟩
      refine (swapRange_api_Op hS.holds (Q := X) (A := U1) (B := Y) (P := P1) (S := S1) (by rw [hXY]; simp only [List.append_assoc]) hY.symm hl1 hlen (by omega) (by omega) rfl).mono ?_
      intro _ w2 hS'
      have hS := hS.call1 hS'
      refine jq ⟨?_⟩
      refine ⟨⟨P1, Y, X, U1 ++ S1⟩, ⟨rfl, rfl, rfl, by show _ = Value.int .i64 _; congr 1; simp only; omega, by show _ = Value.int .i64 _; congr 1; simp only; omega, trivial⟩, ⟨⟨by rw [hT, hXY]; simp only [List.append_assoc], by simp only; omega, by simp only; omega, by simp only; omega⟩, by simp only [List.append_assoc] at hS ⊢; exact hS⟩, by simp only; omega⟩
structure IT_api_Op where
  M : List OpM
  k : Nat
structure JT_api_Op where
  U : List OpM
  V : List OpM
set_option maxHeartbeats 8000000 in
theorem insertion_api_Op {fc : FuncId} {cm : OpM → OpM → Int} (hO : Ord fun x y => decide (cm x y < 0)) (hcm : ∀ (x y : OpM) (w : World), Cl Tryz.prog fc [opDV x, opDV y] w fun v w' => v = .int .i64 (cm x y) ∧ St w [] [] w') {w : World} {g cap len : Nat} {a b : Int} {l P M S : List OpM} {tail : List Value} (hh : Holds [(g, .cells ⟨l.flatMap opDC ++ tail⟩ T_api_Op (0, 0))] w) (hl : l = P ++ M ++ S) (hlL : l.length = len) (hlen : len ≤ 16777216) (ha : a = P.length) (hb : b = P.length + M.length) :
    Cl Tryz.prog f_slices_insertionSortCmpFunc_api_Op [.slice (some ⟨g, 0, none⟩) len cap, .int .i64 a, .int .i64 b, .func (.func fc) ⟨[]⟩ ⟨[]⟩] w fun _ w' => ∃ M', M'.Perm M ∧ Srt (fun x y => decide (cm x y < 0)) M' ∧ St w [g] [(g, .cells ⟨(P ++ M' ++ S).flatMap opDC ++ tail⟩ T_api_Op (0, 0))] w' := by
  have hS : St w [g] [(g, .cells ⟨l.flatMap opDC ++ tail⟩ T_api_Op (0, 0))] w := St.enter hh
  have hll : len = P.length + M.length + S.length := by rw [← hlL, hl]; simp only [List.length_append]
  subst hl
  refine en_slices_insertionSortCmpFunc_api_Op rfl ?_
  refine jq ⟨?_⟩
  refine SemW.loop (fun x : IT_api_Op => [(0, .slice (some ⟨g, 0, none⟩) len cap), (1, .int .i64 a), (2, .int .i64 b), (3, .func (.func fc) ⟨[]⟩ ⟨[]⟩), (8, .int .i64 (a + 1 + x.k))])
    (fun x w' => (x.M.Perm M ∧ (0 < M.length → x.k + 1 ≤ M.length) ∧ Srt (fun x y => decide (cm x y < 0)) (x.M.take (x.k + 1))) ∧ St w [g] [(g, .cells ⟨(P ++ x.M ++ S).flatMap opDC ++ tail⟩ T_api_Op (0, 0))] w') (fun x => M.length - x.k) ⟨M, 0⟩
    ⟨rfl, rfl, rfl, rfl, by show _ = Value.int .i64 _; congr 1; simp only; omega, trivial⟩ ⟨⟨List.Perm.refl _, by simp only; omega, by cases M with | nil => exact Srt.nil | cons z M => exact List.pairwise_singleton _ _⟩, hS⟩ ?_
  clear hS
  rintro ⟨M1, k⟩ w1 ⟨⟨hp, hk, hs⟩, hS⟩
  simp only at hp hk hs hS ⊢
  have hpl := hp.length_eq
  by_cases hkl : k + 1 < M.length
  · obtain ⟨B, x, R, hM1, hB, -⟩ := cut_at (l := M1) (k := k + 1) (by omega)
    rw [hM1, List.take_left' hB] at hs
    subst hM1
    refine jq ⟨?_⟩
    refine SemW.loop (fun y : JT_api_Op => [(0, .slice (some ⟨g, 0, none⟩) len cap), (1, .int .i64 a), (2, .int .i64 b), (3, .func (.func fc) ⟨[]⟩ ⟨[]⟩), (8, .int .i64 (a + 1 + k)), (9, .int .i64 (a + y.U.length))])
      (fun y w' => (y.U ++ y.V = B ∧ ∀ v ∈ y.V, decide (cm x v < 0) = true) ∧ St w [g] [(g, .cells ⟨(P ++ (y.U ++ x :: y.V ++ R) ++ S).flatMap opDC ++ tail⟩ T_api_Op (0, 0))] w') (fun y => y.U.length) ⟨B, []⟩
      ⟨rfl, rfl, rfl, rfl, rfl, by show _ = Value.int .i64 _; congr 1; simp only; omega, trivial⟩ ⟨⟨by simp, by simp⟩, by simpa using hS⟩ ?_
    clear hS
    rintro ⟨U, V⟩ w2 ⟨⟨hUV, hV⟩, hS⟩
    simp only at hUV hV hS ⊢
    have hUl : U.length + V.length = k + 1 := by rw [← hB, ← hUV, List.length_append]
    have hcl : (P ++ (U ++ x :: V ++ R) ++ S).length = len := by
      have := hp.length_eq
      simp only [List.length_append, List.length_cons] at this ⊢; omega
    by_cases hU : U = []
    · subst hU
      simp only [List.length_nil]
      refine jq ⟨?_⟩
      refine SemW.draw tblOk mixed (fun w' => St w [g] [(g, .cells ⟨(P ++ ([] ++ x :: V ++ R) ++ S).flatMap opDC ++ tail⟩ T_api_Op (0, 0))] w') [14, 15, 16] [0, 1, 2, 3, 4, 5, 6, 7, 8, 9, 10, 11, 12, 13, 14, 15, 16] (by kernel_rfl) hS.drew ?_
      have hS := hS.drew
      refine jr ⟨?_⟩
      refine ⟨⟨x :: V ++ R, k + 1⟩, ⟨rfl, rfl, rfl, rfl, by show _ = Value.int .i64 _; congr 1; simp only; omega, trivial⟩, ⟨⟨?_, by simp only; omega, ?_⟩, by simpa using hS⟩, by simp only; omega⟩
      · refine List.Perm.trans ?_ hp
        rw [← hUV, List.nil_append]
        simp only [List.cons_append]
        exact List.perm_middle.symm
      · have e4 : (x :: V ++ R).take (k + 1 + 1) = x :: V := List.take_left' (by rw [List.length_nil] at hUl; simp only [List.length_cons]; omega)
        simp only [e4]
        rw [← hUV] at hs
        exact insert_sorted hO (U := []) hs hV nofun
    · obtain ⟨U', u, rfl⟩ : ∃ U' u, U = U' ++ [u] := ⟨U.dropLast, U.getLast hU, (List.dropLast_concat_getLast hU).symm⟩
      rw [List.length_append, List.length_singleton] at hUl
      have hUu : (U' ++ [u]).length = U'.length + 1 := by simp
      rw [hUu]
      have e0 : P ++ (U' ++ [u] ++ x :: V ++ R) ++ S = (P ++ U') ++ u :: x :: (V ++ R ++ S) := by simp
      rw [e0] at hS
      have hi : P.length + U'.length < ((P ++ U') ++ u :: x :: (V ++ R ++ S)).length := by simp only [List.length_append, List.length_cons]; omega
      have hj : P.length + U'.length + 1 < ((P ++ U') ++ u :: x :: (V ++ R ++ S)).length := by simp only [List.length_append, List.length_cons]; omega
      have e1 : ((P ++ U') ++ u :: x :: (V ++ R ++ S))[P.length + U'.length] = u := get_mid _ _ _ _ _ (by rw [List.length_append])
      have e2 : ((P ++ U') ++ u :: x :: (V ++ R ++ S))[P.length + U'.length + 1] = x := get_adj _ _ _ _ _ _ (by rw [List.length_append])
      have hsw := swp_adj (P ++ U') (V ++ R ++ S) u x (P.length + U'.length) (by rw [List.length_append])
      refine jq ⟨?_⟩
      refine SemW.draw tblOk mixed (fun w' => St w [g] [(g, .cells ⟨(P ++ U' ++ u :: x :: (V ++ R ++ S)).flatMap opDC ++ tail⟩ T_api_Op (0, 0))] w') [14, 15, 16] [0, 1, 2, 3, 4, 5, 6, 7, 8, 9, 10, 11, 12, 13, 14, 15, 16] (by kernel_rfl) hS.drew ?_
      have hS := hS.drew
      refine jr ⟨?_⟩
      refine St.ldEC (sz := 3) (cv := opDC) (fun _ => rfl) hS hj ?_ ?_
      · omega
      rw [e2]
      refine jr ⟨?_⟩
      refine St.ldEC (sz := 3) (cv := opDC) (fun _ => rfl) hS hi ?_ ?_
      · omega
      rw [e1]
      refine jr ⟨?_⟩
      refine (hcm x u _).mono ?_
      rintro _ w3 ⟨rfl, hS'⟩
      have hS := hS.call0 hS'
      by_cases hlt : cm x u < 0
      · refine jq ⟨?_⟩
        refine SemW.draw tblOk mixed (fun w' => St w [g] [(g, .cells ⟨(P ++ U' ++ u :: x :: (V ++ R ++ S)).flatMap opDC ++ tail⟩ T_api_Op (0, 0))] w') [2, 3, 4, 15, 16, 17] [2, 3, 4, 0, 1, 5, 6, 7, 8, 9, 10, 11, 12, 13, 14, 15, 16, 17] (by kernel_rfl) hS.drew ?_
        have hS := hS.drew
        refine jr ⟨?_⟩
        refine St.ldEC (sz := 3) (cv := opDC) (fun _ => rfl) hS hi ?_ ?_
        · omega
        rw [e1]
        refine jr ⟨?_⟩
        refine St.ldEC (sz := 3) (cv := opDC) (fun _ => rfl) hS hj ?_ ?_
        · omega
        rw [e2]
        refine jr ⟨?_⟩
        refine St.stE (sz := 3) (cv := opDC) (fun _ => rfl) (fun _ => rfl) hS hj ?_ ?_
        · omega
        intro w4 hS
        refine jr ⟨?_⟩
        refine St.stE (sz := 3) (cv := opDC) (fun _ => rfl) (fun _ => rfl) hS (k := P.length + U'.length) (by rw [List.length_set]; exact hi) ?_ ?_
        · omega
        intro w5 hS
        rw [hsw] at hS
        refine jq ⟨?_⟩
        refine ⟨⟨U', u :: V⟩, ⟨rfl, rfl, rfl, rfl, rfl, by show _ = Value.int .i64 _; congr 1; simp only; omega, trivial⟩, ⟨⟨by rw [← hUV]; simp, ?_⟩, ?_⟩, by simp only; omega⟩
        · intro v hv
          rcases List.mem_cons.1 hv with rfl | hv
          · exact decide_eq_true hlt
          · exact hV v hv
        · have e3 : P ++ (U' ++ x :: (u :: V) ++ R) ++ S = P ++ U' ++ x :: u :: (V ++ R ++ S) := by simp
          simp only [e3]; exact hS
      · refine jq ⟨?_⟩
        refine ⟨⟨U' ++ [u] ++ x :: V ++ R, k + 1⟩, ⟨rfl, rfl, rfl, rfl, by show _ = Value.int .i64 _; congr 1; simp only; omega, trivial⟩, ⟨⟨?_, by simp only; omega, ?_⟩, ?_⟩, by simp only; omega⟩
        · refine List.Perm.trans ?_ hp
          rw [← hUV]
          refine (List.Perm.append_right R (List.perm_middle)).trans ?_
          simp only [List.cons_append]
          exact List.perm_middle.symm
        · have e4 : (U' ++ [u] ++ x :: V ++ R).take (k + 1 + 1) = U' ++ [u] ++ x :: V := List.take_left' (by simp only [List.length_append, List.length_cons, List.length_nil]; omega)
          simp only [e4]
          rw [← hUV] at hs
          exact insert_sorted hO hs hV fun z hz => (by rw [List.getLast?_concat, Option.some.injEq] at hz; subst hz; exact decide_eq_false hlt)
        · rw [← e0] at hS; exact hS
  · refine jq ⟨?_⟩
    refine ⟨M1, hp, ?_, hS⟩
    rw [List.take_of_length_le (by omega)] at hs
    exact hs
set_option maxHeartbeats 8000000 in
theorem merge1_api_Op {fc : FuncId} {cm : OpM → OpM → Int} (hO : Ord fun x y => decide (cm x y < 0)) (hcm : ∀ (x y : OpM) (w : World), Cl Tryz.prog fc [opDV x, opDV y] w fun v w' => v = .int .i64 (cm x y) ∧ St w [] [] w') {w : World} {g cap len : Nat} {a m b : Int} {l P B S : List OpM} {x : OpM} {tail : List Value} (hh : Holds [(g, .cells ⟨l.flatMap opDC ++ tail⟩ T_api_Op (0, 0))] w) (hl : l = P ++ x :: B ++ S) (hlL : l.length = len) (hlen : len ≤ 16777216) (ha : a = P.length) (hm : m = P.length + 1) (hb : b = P.length + 1 + B.length) (hB : Srt (fun x y => decide (cm x y < 0)) B) :
    Cl Tryz.prog f_slices_symMergeCmpFunc_api_Op [.slice (some ⟨g, 0, none⟩) len cap, .int .i64 a, .int .i64 m, .int .i64 b, .func (.func fc) ⟨[]⟩ ⟨[]⟩] w fun _ w' => ∃ M', M'.Perm (x :: B) ∧ Srt (fun x y => decide (cm x y < 0)) M' ∧ St w [g] [(g, .cells ⟨(P ++ M' ++ S).flatMap opDC ++ tail⟩ T_api_Op (0, 0))] w' := by
  have hS : St w [g] [(g, .cells ⟨l.flatMap opDC ++ tail⟩ T_api_Op (0, 0))] w := St.enter hh
  have hll : len = P.length + 1 + B.length + S.length := by rw [← hlL, hl]; simp only [List.length_append, List.length_cons]; omega
  subst hl
  refine en_slices_symMergeCmpFunc_api_Op rfl ?_
  refine jq ⟨?_⟩
  refine SemW.loop (fun x : Nat × Nat => [(0, .slice (some ⟨g, 0, none⟩) len cap), (1, .int .i64 a), (2, .int .i64 m), (3, .int .i64 b), (4, .func (.func fc) ⟨[]⟩ ⟨[]⟩), (10, .int .i64 (m + x.1)), (11, .int .i64 (m + x.2))])
    (fun z w' => (z.1 ≤ z.2 ∧ z.2 ≤ B.length ∧ (∀ u, (B.take z.1).getLast? = some u → cm u x < 0) ∧ (∀ v, (B.drop z.2).head? = some v → ¬ cm v x < 0)) ∧ St w [g] [(g, .cells ⟨(P ++ x :: B ++ S).flatMap opDC ++ tail⟩ T_api_Op (0, 0))] w') (fun z => z.2 - z.1) (0, B.length)
    ⟨rfl, rfl, rfl, rfl, rfl, by show _ = Value.int .i64 _; congr 1; simp only; omega, by show _ = Value.int .i64 _; congr 1; simp only; omega, trivial⟩ ⟨⟨Nat.zero_le _, Nat.le_refl _, by simp, by simp⟩, hS⟩ ?_
  clear hS
  rintro ⟨i, j⟩ w1 ⟨⟨hij, hj, h1, h2⟩, hS⟩
  simp only at hij hj h1 h2 hS ⊢
  by_cases hlt : i < j
  · refine jq ⟨?_⟩
    obtain ⟨h, hh⟩ : ∃ h, h = (i + j) / 2 := ⟨_, rfl⟩
    have hi : P.length + 1 + h < (P ++ x :: B ++ S).length := by omega
    have hjj : P.length < (P ++ x :: B ++ S).length := by omega
    have hhB : h < B.length := by omega
    have e1 : (P ++ x :: B ++ S)[P.length + 1 + h] = B[h] := by
      have e3 : P ++ x :: B ++ S = (P ++ [x]) ++ B ++ S := by simp
      have e4 : (P ++ [x]).length = P.length + 1 := by simp
      have e5 : (P ++ x :: B ++ S)[P.length + 1 + h]? = some B[h] := by
        rw [e3, List.append_assoc, List.getElem?_append_right (by omega), e4, show P.length + 1 + h - (P.length + 1) = h by omega, List.getElem?_append_left hhB, List.getElem?_eq_getElem hhB]
      rw [List.getElem?_eq_getElem hi, Option.some.injEq] at e5
      exact e5
    have e2 : (P ++ x :: B ++ S)[P.length] = x := by
      have e3 : P ++ x :: B ++ S = P ++ x :: (B ++ S) := by simp
      have := get_mid P (B ++ S) x P.length (by rw [← e3]; exact hjj) rfl
      simp only [e3]; exact this
    refine IntG.half (r := m + h) (by omega) (by omega) ?_
    refine jq ⟨?_⟩
    refine SemW.draw tblOk mixed (fun w' => St w [g] [(g, .cells ⟨(P ++ x :: B ++ S).flatMap opDC ++ tail⟩ T_api_Op (0, 0))] w') [9, 10] [0, 1, 2, 3, 4, 5, 6, 7, 8, 9, 10] (by kernel_rfl) hS.drew ?_
    have hS := hS.drew
    refine jr ⟨?_⟩
    refine St.ldEC (sz := 3) (cv := opDC) (fun _ => rfl) hS hi ?_ ?_
    · omega
    rw [e1]
    refine jr ⟨?_⟩
    refine St.ldEC (sz := 3) (cv := opDC) (fun _ => rfl) hS hjj ?_ ?_
    · omega
    rw [e2]
    refine jr ⟨?_⟩
    refine (hcm B[h] x _).mono ?_
    rintro _ w3 ⟨rfl, hS'⟩
    have hS := hS.call0 hS'
    by_cases hc : cm B[h] x < 0
    · refine jq ⟨?_⟩
      refine ⟨(h + 1, j), ⟨rfl, rfl, rfl, rfl, rfl, by show _ = Value.int .i64 _; congr 1; simp only; omega, rfl, trivial⟩, ⟨⟨by simp only; omega, hj, fun u hu => ?_, h2⟩, hS⟩, by simp only; omega⟩
      rw [take_last hhB, Option.some.injEq] at hu; subst hu; exact hc
    · refine jq ⟨?_⟩
      refine ⟨(i, h), ⟨rfl, rfl, rfl, rfl, rfl, rfl, rfl, trivial⟩, ⟨⟨by simp only; omega, by simp only; omega, h1, fun u hu => ?_⟩, hS⟩, by simp only; omega⟩
      rw [drop_head hhB, Option.some.injEq] at hu; subst hu; exact hc
  · have hij' : i = j := by omega
    subst hij'
    refine jq ⟨?_⟩
    obtain ⟨B1, B2, rfl, hB1⟩ : ∃ B1 B2, B = B1 ++ B2 ∧ B1.length = i := ⟨B.take i, B.drop i, (List.take_append_drop _ _).symm, by rw [List.length_take]; omega⟩
    rw [List.take_left' hB1] at h1
    rw [List.drop_left' hB1] at h2
    rw [List.length_append] at hj hb hll
    refine SemW.loop (fun z : List OpM × List OpM => [(0, .slice (some ⟨g, 0, none⟩) len cap), (10, .int .i64 (m + i)), (13, .int .i64 (a + z.1.length))])
      (fun z w' => (z.1 ++ z.2 = B1) ∧ St w [g] [(g, .cells ⟨(P ++ z.1 ++ x :: (z.2 ++ B2 ++ S)).flatMap opDC ++ tail⟩ T_api_Op (0, 0))] w') (fun z => z.2.length) ([], B1)
      ⟨rfl, rfl, by show _ = Value.int .i64 _; congr 1; simp only [List.length_nil]; omega, trivial⟩ ⟨rfl, by simpa using hS⟩ ?_
    clear hS
    rintro ⟨V, W⟩ w2 ⟨hVW, hS⟩
    simp only at hVW hS ⊢
    have hVl : V.length + W.length = i := by rw [← hB1, ← hVW, List.length_append]
    cases W with
    | nil =>
      rw [List.append_nil] at hVW
      subst hVW
      rw [List.length_nil] at hVl
      refine jq ⟨?_⟩
      refine ⟨V ++ x :: B2, List.perm_middle, insert_sorted' hO hB (fun u hu => decide_eq_true (h1 u hu)) (fun v hv => decide_eq_false (h2 v hv)), by simpa using hS⟩
    | cons y W =>
      rw [List.length_cons] at hVl
      have hcl : (P ++ V ++ x :: y :: (W ++ B2 ++ S)).length = len := by
        simp only [List.length_append, List.length_cons]; omega
      have hS : St w [g] [(g, .cells ⟨(P ++ V ++ x :: y :: (W ++ B2 ++ S)).flatMap opDC ++ tail⟩ T_api_Op (0, 0))] w2 := hS
      have hi : P.length + V.length < (P ++ V ++ x :: y :: (W ++ B2 ++ S)).length := by omega
      have hjj : P.length + V.length + 1 < (P ++ V ++ x :: y :: (W ++ B2 ++ S)).length := by omega
      have e1 : (P ++ V ++ x :: y :: (W ++ B2 ++ S))[P.length + V.length] = x := get_mid _ _ _ _ _ (by rw [List.length_append])
      have e2 : (P ++ V ++ x :: y :: (W ++ B2 ++ S))[P.length + V.length + 1] = y := get_adj _ _ _ _ _ _ (by rw [List.length_append])
      have hsw := swp_adj' (P ++ V) (W ++ B2 ++ S) x y (P.length + V.length) (by rw [List.length_append])
      refine jq ⟨?_⟩
      refine SemW.draw tblOk mixed (fun w' => St w [g] [(g, .cells ⟨(P ++ V ++ x :: y :: (W ++ B2 ++ S)).flatMap opDC ++ tail⟩ T_api_Op (0, 0))] w') [2, 3, 4, 15, 16, 17] [2, 3, 4, 0, 1, 5, 6, 7, 8, 9, 10, 11, 12, 13, 14, 15, 16, 17] (by kernel_rfl) hS.drew ?_
      have hS := hS.drew
      refine jr ⟨?_⟩
      refine St.ldEC (sz := 3) (cv := opDC) (fun _ => rfl) hS hjj ?_ ?_
      · omega
      rw [e2]
      refine jr ⟨?_⟩
      refine St.ldEC (sz := 3) (cv := opDC) (fun _ => rfl) hS hi ?_ ?_
      · omega
      rw [e1]
      refine jr ⟨?_⟩
      refine St.stE (sz := 3) (cv := opDC) (fun _ => rfl) (fun _ => rfl) hS hi ?_ ?_
      · omega
      intro w4 hS
      refine jr ⟨?_⟩
      refine St.stE (sz := 3) (cv := opDC) (fun _ => rfl) (fun _ => rfl) hS (k := P.length + V.length + 1) (by rw [List.length_set]; exact hjj) ?_ ?_
      · omega
      intro w5 hS
      rw [hsw] at hS
      refine jq ⟨?_⟩
      refine ⟨(V ++ [y], W), ⟨rfl, rfl, by show _ = Value.int .i64 _; congr 1; simp only [List.length_append, List.length_cons, List.length_nil]; omega, trivial⟩, ⟨by rw [← hVW]; simp, ?_⟩, by simp only [List.length_cons]; omega⟩
      have e3 : P ++ (V ++ [y]) ++ x :: (W ++ B2 ++ S) = P ++ V ++ y :: x :: (W ++ B2 ++ S) := by simp
      simp only [e3]; exact hS
set_option maxHeartbeats 8000000 in
theorem merge2_api_Op {fc : FuncId} {cm : OpM → OpM → Int} (hO : Ord fun x y => decide (cm x y < 0)) (hcm : ∀ (x y : OpM) (w : World), Cl Tryz.prog fc [opDV x, opDV y] w fun v w' => v = .int .i64 (cm x y) ∧ St w [] [] w') {w : World} {g cap len : Nat} {a m b : Int} {l P A S : List OpM} {y : OpM} {tail : List Value} (hh : Holds [(g, .cells ⟨l.flatMap opDC ++ tail⟩ T_api_Op (0, 0))] w) (hl : l = P ++ A ++ y :: S) (hlL : l.length = len) (hlen : len ≤ 16777216) (ha : a = P.length) (hm : m = P.length + A.length) (hb : b = P.length + A.length + 1) (hA : Srt (fun x y => decide (cm x y < 0)) A) (hA2 : 2 ≤ A.length) :
    Cl Tryz.prog f_slices_symMergeCmpFunc_api_Op [.slice (some ⟨g, 0, none⟩) len cap, .int .i64 a, .int .i64 m, .int .i64 b, .func (.func fc) ⟨[]⟩ ⟨[]⟩] w fun _ w' => ∃ M', M'.Perm (A ++ [y]) ∧ Srt (fun x y => decide (cm x y < 0)) M' ∧ St w [g] [(g, .cells ⟨(P ++ M' ++ S).flatMap opDC ++ tail⟩ T_api_Op (0, 0))] w' := by
  have hS : St w [g] [(g, .cells ⟨l.flatMap opDC ++ tail⟩ T_api_Op (0, 0))] w := St.enter hh
  have hll : len = P.length + A.length + 1 + S.length := by rw [← hlL, hl]; simp only [List.length_append, List.length_cons]; omega
  subst hl
  refine en_slices_symMergeCmpFunc_api_Op rfl ?_
  refine jq ⟨?_⟩
  refine SemW.loop (fun x : Nat × Nat => [(0, .slice (some ⟨g, 0, none⟩) len cap), (1, .int .i64 a), (2, .int .i64 m), (3, .int .i64 b), (4, .func (.func fc) ⟨[]⟩ ⟨[]⟩), (14, .int .i64 (a + x.1)), (15, .int .i64 (a + x.2))])
    (fun z w' => (z.1 ≤ z.2 ∧ z.2 ≤ A.length ∧ (∀ u, (A.take z.1).getLast? = some u → ¬ cm y u < 0) ∧ (∀ v, (A.drop z.2).head? = some v → cm y v < 0)) ∧ St w [g] [(g, .cells ⟨(P ++ A ++ y :: S).flatMap opDC ++ tail⟩ T_api_Op (0, 0))] w') (fun z => z.2 - z.1) (0, A.length)
    ⟨rfl, rfl, rfl, rfl, rfl, by show _ = Value.int .i64 _; congr 1; simp only; omega, by show _ = Value.int .i64 _; congr 1; simp only; omega, trivial⟩ ⟨⟨Nat.zero_le _, Nat.le_refl _, by simp, by simp⟩, hS⟩ ?_
  clear hS
  rintro ⟨i, j⟩ w1 ⟨⟨hij, hj, h1, h2⟩, hS⟩
  simp only at hij hj h1 h2 hS ⊢
  by_cases hlt : i < j
  · refine jq ⟨?_⟩
    obtain ⟨h, hh⟩ : ∃ h, h = (i + j) / 2 := ⟨_, rfl⟩
    have hi : P.length + A.length < (P ++ A ++ y :: S).length := by omega
    have hjj : P.length + h < (P ++ A ++ y :: S).length := by omega
    have hhA : h < A.length := by omega
    have e1 : (P ++ A ++ y :: S)[P.length + A.length] = y := get_mid _ _ _ _ _ (by rw [List.length_append])
    have e2 : (P ++ A ++ y :: S)[P.length + h] = A[h] := by
      have e5 : (P ++ A ++ y :: S)[P.length + h]? = some A[h] := by
        rw [List.append_assoc, List.getElem?_append_right (by omega), show P.length + h - P.length = h by omega, List.getElem?_append_left hhA, List.getElem?_eq_getElem hhA]
      rw [List.getElem?_eq_getElem hjj, Option.some.injEq] at e5
      exact e5
    refine IntG.half (r := a + h) (by omega) (by omega) ?_
    refine jq ⟨?_⟩
    refine SemW.draw tblOk mixed (fun w' => St w [g] [(g, .cells ⟨(P ++ A ++ y :: S).flatMap opDC ++ tail⟩ T_api_Op (0, 0))] w') [9, 10, 11] [0, 1, 2, 3, 4, 5, 6, 7, 8, 9, 10, 11] (by kernel_rfl) hS.drew ?_
    have hS := hS.drew
    refine jr ⟨?_⟩
    refine St.ldEC (sz := 3) (cv := opDC) (fun _ => rfl) hS hi ?_ ?_
    · omega
    rw [e1]
    refine jr ⟨?_⟩
    refine St.ldEC (sz := 3) (cv := opDC) (fun _ => rfl) hS hjj ?_ ?_
    · omega
    rw [e2]
    refine jr ⟨?_⟩
    refine (hcm y A[h] _).mono ?_
    rintro _ w3 ⟨rfl, hS'⟩
    have hS := hS.call0 hS'
    by_cases hc : cm y A[h] < 0
    · refine jq ⟨?_⟩
      refine ⟨(i, h), ⟨rfl, rfl, rfl, rfl, rfl, rfl, rfl, trivial⟩, ⟨⟨by simp only; omega, by simp only; omega, h1, fun u hu => ?_⟩, hS⟩, by simp only; omega⟩
      rw [drop_head hhA, Option.some.injEq] at hu; subst hu; exact hc
    · refine jq ⟨?_⟩
      refine ⟨(h + 1, j), ⟨rfl, rfl, rfl, rfl, rfl, by show _ = Value.int .i64 _; congr 1; simp only; omega, rfl, trivial⟩, ⟨⟨by simp only; omega, hj, fun u hu => ?_, h2⟩, hS⟩, by simp only; omega⟩
      rw [take_last hhA, Option.some.injEq] at hu; subst hu; exact hc
  · have hij' : i = j := by omega
    subst hij'
    refine jq ⟨?_⟩
    obtain ⟨A1, A2, rfl, hA1⟩ : ∃ A1 A2, A = A1 ++ A2 ∧ A1.length = i := ⟨A.take i, A.drop i, (List.take_append_drop _ _).symm, by rw [List.length_take]; omega⟩
    rw [List.take_left' hA1] at h1
    rw [List.drop_left' hA1] at h2
    rw [List.length_append] at hj hb hll hm
    refine SemW.loop (fun z : List OpM × List OpM => [(0, .slice (some ⟨g, 0, none⟩) len cap), (14, .int .i64 (a + i)), (17, .int .i64 (a + i + z.1.length))])
      (fun z w' => (z.1 ++ z.2 = A2) ∧ St w [g] [(g, .cells ⟨(P ++ A1 ++ z.1 ++ y :: (z.2 ++ S)).flatMap opDC ++ tail⟩ T_api_Op (0, 0))] w') (fun z => z.1.length) (A2, [])
      ⟨rfl, rfl, by show _ = Value.int .i64 _; congr 1; simp only; omega, trivial⟩ ⟨by simp, by simpa using hS⟩ ?_
    clear hS
    rintro ⟨V, W⟩ w2 ⟨hVW, hS⟩
    simp only at hVW hS ⊢
    have hVl : V.length + W.length = A2.length := by rw [← hVW, List.length_append]
    by_cases hV : V = []
    · subst hV
      rw [List.nil_append] at hVW
      subst hVW
      simp only [List.length_nil]
      refine jq ⟨?_⟩
      refine ⟨A1 ++ y :: W, List.perm_middle.trans (List.perm_append_singleton y (A1 ++ W)).symm, insert_sortedR hO hA (fun u hu => decide_eq_false (h1 u hu)) (fun v hv => decide_eq_true (h2 v hv)), by simpa using hS⟩
    · obtain ⟨V', x, rfl⟩ : ∃ V' x, V = V' ++ [x] := ⟨V.dropLast, V.getLast hV, (List.dropLast_concat_getLast hV).symm⟩
      have hVx : (V' ++ [x]).length = V'.length + 1 := by simp
      rw [hVx] at hVl ⊢
      have e0 : P ++ A1 ++ (V' ++ [x]) ++ y :: (W ++ S) = P ++ A1 ++ V' ++ x :: y :: (W ++ S) := by simp
      rw [e0] at hS
      have hcl : (P ++ A1 ++ V' ++ x :: y :: (W ++ S)).length = len := by
        simp only [List.length_append, List.length_cons]; omega
      have hn : P.length + A1.length + V'.length = (P ++ A1 ++ V').length := by simp only [List.length_append]
      have hi : P.length + A1.length + V'.length < (P ++ A1 ++ V' ++ x :: y :: (W ++ S)).length := by omega
      have hjj : P.length + A1.length + V'.length + 1 < (P ++ A1 ++ V' ++ x :: y :: (W ++ S)).length := by omega
      have e1 : (P ++ A1 ++ V' ++ x :: y :: (W ++ S))[P.length + A1.length + V'.length] = x := get_mid _ _ _ _ _ hn
      have e2 : (P ++ A1 ++ V' ++ x :: y :: (W ++ S))[P.length + A1.length + V'.length + 1] = y := get_adj _ _ _ _ _ _ (by rw [hn])
      have hsw := swp_adj (P ++ A1 ++ V') (W ++ S) x y (P.length + A1.length + V'.length) hn
      refine jq ⟨?_⟩
      refine SemW.draw tblOk mixed (fun w' => St w [g] [(g, .cells ⟨(P ++ A1 ++ V' ++ x :: y :: (W ++ S)).flatMap opDC ++ tail⟩ T_api_Op (0, 0))] w') [2, 3, 4, 15, 16, 17] [2, 3, 4, 0, 1, 5, 6, 7, 8, 9, 10, 11, 12, 13, 14, 15, 16, 17] (by kernel_rfl) hS.drew ?_
      have hS := hS.drew
      refine jr ⟨?_⟩
      refine St.ldEC (sz := 3) (cv := opDC) (fun _ => rfl) hS hi ?_ ?_
      · omega
      rw [e1]
      refine jr ⟨?_⟩
      refine St.ldEC (sz := 3) (cv := opDC) (fun _ => rfl) hS hjj ?_ ?_
      · omega
      rw [e2]
      refine jr ⟨?_⟩
      refine St.stE (sz := 3) (cv := opDC) (fun _ => rfl) (fun _ => rfl) hS hjj ?_ ?_
      · omega
      intro w4 hS
      refine jr ⟨?_⟩
      refine St.stE (sz := 3) (cv := opDC) (fun _ => rfl) (fun _ => rfl) hS (k := P.length + A1.length + V'.length) (by rw [List.length_set]; exact hi) ?_ ?_
      · omega
      intro w5 hS
      rw [hsw] at hS
      refine jq ⟨?_⟩
      refine ⟨(V', x :: W), ⟨rfl, rfl, by show _ = Value.int .i64 _; congr 1; simp only; omega, trivial⟩, ⟨by rw [← hVW]; simp, hS⟩, by simp only; omega⟩
set_option maxRecDepth 4000 in
set_option maxHeartbeats 16000000 in
theorem merge_api_Op {fc : FuncId} {cm : OpM → OpM → Int} (hO : Ord fun x y => decide (cm x y < 0)) (hcm : ∀ (x y : OpM) (w : World), Cl Tryz.prog fc [opDV x, opDV y] w fun v w' => v = .int .i64 (cm x y) ∧ St w [] [] w') {g cap len : Nat} {tail : List Value} (hlen : len ≤ 16777216) : ∀ (N : Nat) {w : World} {a m b : Int} {l P A B S : List OpM}, Holds [(g, .cells ⟨l.flatMap opDC ++ tail⟩ T_api_Op (0, 0))] w → l = P ++ A ++ B ++ S → l.length = len → a = P.length → m = P.length + A.length → b = P.length + A.length + B.length → Srt (fun x y => decide (cm x y < 0)) A → Srt (fun x y => decide (cm x y < 0)) B → 1 ≤ A.length → 1 ≤ B.length → A.length + B.length ≤ N →
    Cl Tryz.prog f_slices_symMergeCmpFunc_api_Op [.slice (some ⟨g, 0, none⟩) len cap, .int .i64 a, .int .i64 m, .int .i64 b, .func (.func fc) ⟨[]⟩ ⟨[]⟩] w fun _ w' => ∃ M', M'.Perm (A ++ B) ∧ Srt (fun x y => decide (cm x y < 0)) M' ∧ St w [g] [(g, .cells ⟨(P ++ M' ++ S).flatMap opDC ++ tail⟩ T_api_Op (0, 0))] w' := by
  intro N
  induction N with
  | zero => intro w a m b l P A B S hh hl hlL ha hm hb hA hB hA1 hB1 hN; omega
  | succ N ih =>
  intro w a m b l P A B S hh hl hlL ha hm hb hA hB hA1 hB1 hN
  by_cases c1 : A.length = 1
  · obtain ⟨x, rfl⟩ := List.length_eq_one_iff.1 c1
    rw [List.length_singleton] at hm hb
    exact merge1_api_Op hO hcm hh (by rw [hl]; simp) hlL hlen ha hm hb hB
  by_cases c2 : B.length = 1
  · obtain ⟨y, rfl⟩ := List.length_eq_one_iff.1 c2
    rw [List.length_singleton] at hb
    exact merge2_api_Op hO hcm hh (by rw [hl]; simp) hlL hlen ha hm hb hA (by omega)
  have hS : St w [g] [(g, .cells ⟨l.flatMap opDC ++ tail⟩ T_api_Op (0, 0))] w := St.enter hh
  have hll : len = P.length + A.length + B.length + S.length := by rw [← hlL, hl]; simp only [List.length_append]
  have hat1 : ∀ c (hc : c < A.length) (h : P.length + c < (P ++ A ++ B ++ S).length), (P ++ A ++ B ++ S)[P.length + c] = A[c] := by
    intro c hc h
    have e5 : (P ++ A ++ B ++ S)[P.length + c]? = some A[c] := by
      rw [List.append_assoc, List.append_assoc, List.getElem?_append_right (by omega), show P.length + c - P.length = c by omega, List.getElem?_append_left hc, List.getElem?_eq_getElem hc]
    rw [List.getElem?_eq_getElem h, Option.some.injEq] at e5
    exact e5
  have hat2 : ∀ c (hc : c < B.length) (h : P.length + A.length + c < (P ++ A ++ B ++ S).length), (P ++ A ++ B ++ S)[P.length + A.length + c] = B[c] := by
    intro c hc h
    have hPA : (P ++ A).length = P.length + A.length := List.length_append
    have e5 : (P ++ A ++ B ++ S)[P.length + A.length + c]? = some B[c] := by
      rw [List.append_assoc (P ++ A), List.getElem?_append_right (by omega), hPA, show P.length + A.length + c - (P.length + A.length) = c by omega, List.getElem?_append_left hc, List.getElem?_eq_getElem hc]
    rw [List.getElem?_eq_getElem h, Option.some.injEq] at e5
    exact e5
  subst hl
  obtain ⟨d, hd⟩ : ∃ d, d = (A.length + B.length) / 2 := ⟨_, rfl⟩
  -- the search: s0, r0 are its ends, counted from a
  obtain ⟨s0, r0, hsr⟩ : ∃ s0 r0 : Nat, (d < A.length → s0 = d + A.length - (A.length + B.length) ∧ r0 = d) ∧ (A.length ≤ d → s0 = 0 ∧ r0 = A.length) := by
    by_cases h : d < A.length
    · exact ⟨d + A.length - (A.length + B.length), d, fun _ => ⟨rfl, rfl⟩, fun h' => absurd h' (by omega)⟩
    · exact ⟨0, A.length, fun h' => absurd h' h, fun _ => ⟨rfl, rfl⟩⟩
  refine en_slices_symMergeCmpFunc_api_Op rfl ?_
  refine jq ⟨?_⟩
  refine IntG.half (r := a + d) (by omega) (by omega) ?_
  refine jq ⟨?_⟩
  by_cases hdA : d < A.length
  all_goals
    have hs0 : s0 ≤ r0 ∧ r0 ≤ d ∧ r0 ≤ A.length ∧ d - s0 ≤ B.length := by omega
    refine jq ⟨?_⟩
    refine SemW.loop (fun z : Nat × Nat => [(0, .slice (some ⟨g, 0, none⟩) len cap), (1, .int .i64 a), (2, .int .i64 m), (3, .int .i64 b), (4, .func (.func fc) ⟨[]⟩ ⟨[]⟩), (18, .int .i64 (a + d)), (19, .int .i64 (a + d + m)), (20, .int .i64 (a + z.1)), (21, .int .i64 (a + z.2)), (22, .int .i64 (a + d + m - 1))])
      (fun z w' => (s0 ≤ z.1 ∧ z.1 ≤ z.2 ∧ z.2 ≤ r0 ∧ EdgeL (fun x y => decide (cm x y < 0)) A B d z.1 s0 ∧ EdgeR (fun x y => decide (cm x y < 0)) A B d z.2 r0) ∧ St w [g] [(g, .cells ⟨(P ++ A ++ B ++ S).flatMap opDC ++ tail⟩ T_api_Op (0, 0))] w') (fun z => z.2 - z.1) (s0, r0)
      ⟨rfl, rfl, rfl, rfl, rfl, rfl, rfl, by show _ = Value.int .i64 _; congr 1; simp only; omega, by show _ = Value.int .i64 _; congr 1; simp only; omega, rfl, trivial⟩ ⟨⟨Nat.le_refl _, hs0.1, Nat.le_refl _, .inl rfl, .inl rfl⟩, hS⟩ ?_
    clear hS
    rintro ⟨s, r⟩ w1 ⟨⟨q1, q2, q3, E1, E2⟩, hS⟩
    simp only at q1 q2 q3 E1 E2 hS ⊢
    by_cases hlt : s < r
    · refine jq ⟨?_⟩
      obtain ⟨c, hc⟩ : ∃ c, c = (s + r) / 2 := ⟨_, rfl⟩
      have hcA : c < A.length := by omega
      have hcB : d - 1 - c < B.length := by omega
      have hi : P.length + A.length + (d - 1 - c) < (P ++ A ++ B ++ S).length := by omega
      have hj : P.length + c < (P ++ A ++ B ++ S).length := by omega
      have e1 := hat2 _ hcB hi
      have e2 := hat1 _ hcA hj
      refine IntG.half (r := a + c) (by omega) (by omega) ?_
      refine jq ⟨?_⟩
      refine SemW.draw tblOk mixed (fun w' => St w [g] [(g, .cells ⟨(P ++ A ++ B ++ S).flatMap opDC ++ tail⟩ T_api_Op (0, 0))] w') [11, 12, 13] [0, 1, 2, 3, 4, 5, 6, 7, 8, 9, 10, 11, 12, 13] (by kernel_rfl) hS.drew ?_
      have hS := hS.drew
      refine jr ⟨?_⟩
      refine St.ldEC (sz := 3) (cv := opDC) (fun _ => rfl) hS hi ?_ ?_
      · omega
      rw [e1]
      refine jr ⟨?_⟩
      refine St.ldEC (sz := 3) (cv := opDC) (fun _ => rfl) hS hj ?_ ?_
      · omega
      rw [e2]
      refine jr ⟨?_⟩
      refine (hcm B[d - 1 - c] A[c] _).mono ?_
      rintro _ w3 ⟨rfl, hS'⟩
      have hS := hS.call0 hS'
      by_cases hcc : cm B[d - 1 - c] A[c] < 0
      · refine jq ⟨?_⟩
        refine ⟨(s, c), ⟨rfl, rfl, rfl, rfl, rfl, rfl, rfl, rfl, rfl, rfl, trivial⟩, ⟨⟨q1, by simp only; omega, by simp only; omega, E1, .inr ⟨A[c], B[d - 1 - c], List.getElem?_eq_getElem hcA, ?_, decide_eq_true hcc⟩⟩, hS⟩, by simp only; omega⟩
        rw [show d - c - 1 = d - 1 - c by omega]; exact List.getElem?_eq_getElem hcB
      · refine jq ⟨?_⟩
        refine ⟨(c + 1, r), ⟨rfl, rfl, rfl, rfl, rfl, rfl, rfl, by show _ = Value.int .i64 _; congr 1; simp only; omega, rfl, rfl, trivial⟩, ⟨⟨by simp only; omega, by simp only; omega, q3, .inr ⟨A[c], B[d - 1 - c], ?_, ?_, decide_eq_false hcc⟩, E2⟩, hS⟩, by simp only; omega⟩
        · rw [Nat.add_sub_cancel]; exact List.getElem?_eq_getElem hcA
        · rw [show d - (c + 1) = d - 1 - c by omega]; exact List.getElem?_eq_getElem hcB
    · have hsr' : r = s := by omega
      subst hsr'
      obtain ⟨A1, A2, rfl, hA1'⟩ : ∃ A1 A2, A = A1 ++ A2 ∧ A1.length = r := ⟨A.take r, A.drop r, (List.take_append_drop _ _).symm, by rw [List.length_take]; omega⟩
      obtain ⟨B1, B2, rfl, hB1'⟩ : ∃ B1 B2, B = B1 ++ B2 ∧ B1.length = d - r := ⟨B.take (d - r), B.drop (d - r), (List.take_append_drop _ _).symm, by rw [List.length_take]; omega⟩
      have k1 : ∀ x y, A1.getLast? = some x → B2.head? = some y → decide (cm y x < 0) = false := by
        intro x y hx hy
        have hx0 : 0 < A1.length := by cases A1 with | nil => cases hx | cons => simp
        have hy0 : 0 < B2.length := by cases B2 with | nil => cases hy | cons => simp
        rw [List.length_append] at hs0 hsr
        rw [List.length_append] at hs0 hsr
        rcases E1 with h | ⟨x', y', h1, h2, h3⟩
        · omega
        · rw [List.getLast?_eq_getElem?] at hx
          rw [List.head?_eq_getElem?] at hy
          rw [List.getElem?_append_left (by omega), ← hA1', hx, Option.some.injEq] at h1
          rw [List.getElem?_append_right (by omega), hB1', Nat.sub_self, hy, Option.some.injEq] at h2
          subst h1 h2; exact h3
      have k2 : ∀ x y, B1.getLast? = some x → A2.head? = some y → decide (cm x y < 0) = true := by
        intro x y hx hy
        have hx0 : 0 < B1.length := by cases B1 with | nil => cases hx | cons => simp
        have hy0 : 0 < A2.length := by cases A2 with | nil => cases hy | cons => simp
        rw [List.length_append] at hs0 hsr
        rw [List.length_append] at hs0 hsr
        rcases E2 with h | ⟨x', y', h1, h2, h3⟩
        · omega
        · rw [List.getLast?_eq_getElem?] at hx
          rw [List.head?_eq_getElem?] at hy
          rw [List.getElem?_append_right (by omega), hA1', Nat.sub_self, hy, Option.some.injEq] at h1
          rw [List.getElem?_append_left (by omega), ← hB1', hx, Option.some.injEq] at h2
          subst h1 h2; exact h3
      have hsp := split_ok hO hA hB k1 k2
      clear k1 k2 E1 E2 hat1 hat2
      simp only [List.length_append] at hm hb hll hN hd hA1 hB1 hs0 hdA c1 c2
      clear hsr
      have hlL2 : (P ++ (A1 ++ B1) ++ (A2 ++ B2) ++ S).length = len := by simp only [List.length_append]; omega
      have hn1 : (P ++ A1).length = P.length + A1.length := List.length_append
      rcases Nat.eq_zero_or_pos A1.length with z1 | z1 <;> rcases Nat.eq_zero_or_pos A2.length with z2 | z2 <;> rcases Nat.eq_zero_or_pos B1.length with z3 | z3 <;> rcases Nat.eq_zero_or_pos B2.length with z4 | z4 <;> try (exfalso; omega)
      all_goals
        refine jq ⟨?_⟩
        first
        | refine (rotate_api_Op hS.holds (P := P ++ A1) (U := A2) (V := B1) (S := B2 ++ S) (by simp only [List.append_assoc]) hlL hlen (by omega) (by omega) (by omega) z2 z3).mono ?_
          intro _ w2 hS'
          have hS := hS.call1 hS'
          have e9 : P ++ A1 ++ B1 ++ A2 ++ (B2 ++ S) = P ++ (A1 ++ B1) ++ (A2 ++ B2) ++ S := by simp only [List.append_assoc]
          rw [e9] at hS
          refine jq ⟨?_⟩
        | rw [noRot (by omega)] at hS
        first
        | refine (ih hS.holds (P := P) (A := A1) (B := B1) (S := (A2 ++ B2) ++ S) (by simp only [List.append_assoc]) hlL2 ha (by omega) (by omega) hA.left hB.left z1 z3 (by omega)).mono ?_
          rintro _ w3 ⟨L1, p1, s1, hS'⟩
          have hS := hS.call1 hS'
          rw [← List.append_assoc (P ++ L1) (A2 ++ B2) S] at hS
          refine jq ⟨?_⟩
        | obtain ⟨L1, p1, s1, eL⟩ : ∃ L1, L1.Perm (A1 ++ B1) ∧ Srt (fun x y => decide (cm x y < 0)) L1 ∧ L1 = A1 ++ B1 := ⟨_, List.Perm.refl _, oneSrt (by omega) hA hB, rfl⟩
          rw [← eL] at hS
        have hL1 := p1.length_eq
        rw [List.length_append] at hL1
        have hlL3 : (P ++ L1 ++ (A2 ++ B2) ++ S).length = len := by simp only [List.length_append]; omega
        have hn2 : (P ++ L1).length = P.length + L1.length := List.length_append
        first
        | refine (ih hS.holds (P := P ++ L1) (A := A2) (B := B2) (S := S) (by simp only [List.append_assoc]) hlL3 (by omega) (by omega) (by omega) hA.right hB.right z2 z4 (by omega)).mono ?_
          rintro _ w4 ⟨R1, p2, s2, hS'⟩
          have hS := hS.call1 hS'
          refine jq ⟨?_⟩
        | obtain ⟨R1, p2, s2, eR⟩ : ∃ R1, R1.Perm (A2 ++ B2) ∧ Srt (fun x y => decide (cm x y < 0)) R1 ∧ R1 = A2 ++ B2 := ⟨_, List.Perm.refl _, oneSrt' (by omega) hA hB, rfl⟩
          rw [← eR] at hS
        refine ⟨L1 ++ R1, halves_perm p1 p2, s1.app s2 fun x hx y hy => hsp x (p1.mem_iff.1 hx) y (p2.mem_iff.1 hy), ?_⟩
        rw [← List.append_assoc P L1 R1]
        exact hS
structure ST_api_Op where
  bs : List (List OpM)
  R : List OpM
structure SU_api_Op where
  l : List OpM
  n : Nat
set_option maxRecDepth 4000 in
set_option maxHeartbeats 16000000 in
theorem stable_api_Op {fc : FuncId} {cm : OpM → OpM → Int} (hO : Ord fun x y => decide (cm x y < 0)) (hcm : ∀ (x y : OpM) (w : World), Cl Tryz.prog fc [opDV x, opDV y] w fun v w' => v = .int .i64 (cm x y) ∧ St w [] [] w') {w : World} {g cap len : Nat} {l : List OpM} {tail : List Value} (hh : Holds [(g, .cells ⟨l.flatMap opDC ++ tail⟩ T_api_Op (0, 0))] w) (hlL : l.length = len) (hlen : len ≤ 16777216) :
    Cl Tryz.prog f_slices_stableCmpFunc_api_Op [.slice (some ⟨g, 0, none⟩) len cap, .int .i64 len, .func (.func fc) ⟨[]⟩ ⟨[]⟩] w fun _ w' => ∃ l', l'.Perm l ∧ Srt (fun x y => decide (cm x y < 0)) l' ∧ St w [g] [(g, .cells ⟨l'.flatMap opDC ++ tail⟩ T_api_Op (0, 0))] w' := by
  have hS : St w [g] [(g, .cells ⟨l.flatMap opDC ++ tail⟩ T_api_Op (0, 0))] w := St.enter hh
  refine en_slices_stableCmpFunc_api_Op rfl ?_
  refine jq ⟨?_⟩
  refine SemW.loop (fun x : ST_api_Op => [(0, .slice (some ⟨g, 0, none⟩) len cap), (1, .int .i64 len), (2, .func (.func fc) ⟨[]⟩ ⟨[]⟩), (6, .int .i64 20), (7, .int .i64 x.bs.flatten.length), (8, .int .i64 (x.bs.flatten.length + 20))])
    (fun x w' => ((x.bs.flatten ++ x.R).Perm l ∧ Full (fun x y => decide (cm x y < 0)) 20 x.bs) ∧ St w [g] [(g, .cells ⟨(x.bs.flatten ++ x.R).flatMap opDC ++ tail⟩ T_api_Op (0, 0))] w') (fun x => x.R.length) ⟨[], l⟩
    ⟨rfl, rfl, rfl, rfl, rfl, rfl, trivial⟩ ⟨⟨List.Perm.refl _, nofun⟩, hS⟩ ?_
  clear hS
  rintro ⟨bs, R⟩ w1 ⟨⟨hp, hf⟩, hS⟩
  simp only at hp hf hS ⊢
  have hpl := hp.length_eq
  rw [List.length_append] at hpl
  generalize hbl : bs.flatten.length = q at hpl ⊢
  by_cases hle : 20 ≤ R.length
  · obtain ⟨X, R', rfl, hX⟩ : ∃ X R', R = X ++ R' ∧ X.length = 20 := ⟨R.take 20, R.drop 20, (List.take_append_drop _ _).symm, by rw [List.length_take]; omega⟩
    rw [List.length_append] at hpl
    refine jq ⟨?_⟩
    refine (insertion_api_Op hO hcm hS.holds (P := bs.flatten) (M := X) (S := R') (by simp only [List.append_assoc]) (hp.length_eq.trans hlL) hlen (by omega) (by omega)).mono ?_
    rintro _ w2 ⟨X', p1, s1, hS'⟩
    have hS := hS.call1 hS'
    have e1 : (bs ++ [X']).flatten = bs.flatten ++ X' := by simp
    have hXl := p1.length_eq
    have e2 : (bs ++ [X']).flatten.length = q + 20 := by rw [e1, List.length_append]; omega
    refine jq ⟨?_⟩
    refine ⟨⟨bs ++ [X'], R'⟩, ⟨rfl, rfl, rfl, rfl, by show _ = Value.int .i64 _; congr 1; simp only; omega, by show _ = Value.int .i64 _; congr 1; simp only; omega, trivial⟩, ⟨⟨?_, hf.snoc (by omega) s1⟩, ?_⟩, by simp only [List.length_append]; omega⟩
    · simp only [e1]
      refine List.Perm.trans ?_ hp
      rw [List.append_assoc]
      exact (p1.append_right R').append_left _
    · simp only [e1]; exact hS
  · refine jq ⟨?_⟩
    refine (insertion_api_Op hO hcm hS.holds (P := bs.flatten) (M := R) (S := []) (by rw [List.append_nil]) (hp.length_eq.trans hlL) hlen (by omega) (by omega)).mono ?_
    rintro _ w2 ⟨R1, p1, s1, hS'⟩
    have hS := hS.call1 hS'
    rw [List.append_nil] at hS
    have hRl := p1.length_eq
    have hp1 : (bs.flatten ++ R1).Perm l := (p1.append_left _).trans hp
    have hc : Cks (fun x y => decide (cm x y < 0)) 20 (bs.flatten ++ R1) := ⟨bs, R1, rfl, hf, by omega, s1⟩
    generalize bs.flatten ++ R1 = l1 at hS hc hp1
    clear hRl p1 s1 hpl hbl hf hp hle
    refine jq ⟨?_⟩
    refine SemW.loop (fun x : SU_api_Op => [(0, .slice (some ⟨g, 0, none⟩) len cap), (1, .int .i64 len), (2, .func (.func fc) ⟨[]⟩ ⟨[]⟩), (6, .int .i64 x.n)])
      (fun x w' => (x.l.Perm l ∧ Cks (fun x y => decide (cm x y < 0)) x.n x.l ∧ 1 ≤ x.n) ∧ St w [g] [(g, .cells ⟨x.l.flatMap opDC ++ tail⟩ T_api_Op (0, 0))] w') (fun x => len - x.n) ⟨l1, 20⟩
      ⟨rfl, rfl, rfl, rfl, trivial⟩ ⟨⟨hp1, hc, by simp only; omega⟩, hS⟩ ?_
    clear hS hp1 hc
    rintro ⟨l2, n⟩ w3 ⟨⟨hp, hc, hn⟩, hS⟩
    simp only at hp hc hn hS ⊢
    have hpl := hp.length_eq
    by_cases hnl : n < len
    · obtain ⟨bs0, r, rfl, hf0, hr, hsr⟩ := hc
      refine jq ⟨?_⟩
      refine SemW.loop (fun x : List (List OpM) × List (List OpM) => [(0, .slice (some ⟨g, 0, none⟩) len cap), (1, .int .i64 len), (2, .func (.func fc) ⟨[]⟩ ⟨[]⟩), (6, .int .i64 n), (7, .int .i64 x.1.flatten.length), (8, .int .i64 (x.1.flatten.length + 2 * n))])
        (fun x w' => ((x.1.flatten ++ x.2.flatten ++ r).Perm l ∧ Full (fun x y => decide (cm x y < 0)) (2 * n) x.1 ∧ Full (fun x y => decide (cm x y < 0)) n x.2) ∧ St w [g] [(g, .cells ⟨(x.1.flatten ++ x.2.flatten ++ r).flatMap opDC ++ tail⟩ T_api_Op (0, 0))] w') (fun x => x.2.length) ([], bs0)
        ⟨rfl, rfl, rfl, rfl, rfl, by show _ = Value.int .i64 _; congr 1; simp only [List.flatten_nil, List.length_nil]; omega, trivial⟩ ⟨⟨hp, nofun, hf0⟩, hS⟩ ?_
      clear hS hf0 hp
      rintro ⟨b1, b2⟩ w4 ⟨⟨hp, hf1, hf2⟩, hS⟩
      simp only at hp hf1 hf2 hS ⊢
      have hpl2 := hp.length_eq
      rw [List.length_append, List.length_append] at hpl2
      have hlL4 := hp.length_eq.trans hlL
      generalize hbl : b1.flatten.length = q at hpl2 ⊢
      match b2, hf2, hpl2, hp, hS, hlL4 with
      | x :: y :: rest, hf2, hpl2, hp, hS, hlL4 =>
        have hx := hf2.hd
        have hy := hf2.tl.hd
        have hxy : (x :: y :: rest).flatten = x ++ (y ++ rest.flatten) := by simp
        rw [hxy] at hS hp hpl2 hlL4
        rw [List.length_append, List.length_append] at hpl2
        refine jq ⟨?_⟩
        refine (merge_api_Op hO hcm hlen _ hS.holds (P := b1.flatten) (A := x) (B := y) (S := rest.flatten ++ r) (by simp only [List.append_assoc]) hlL4 (by omega) (by omega) (by omega) hx.2 hy.2 (by omega) (by omega) (Nat.le_refl _)).mono ?_
        rintro _ w5 ⟨M, p1, s1, hS'⟩
        have hS := hS.call1 hS'
        have e1 : (b1 ++ [M]).flatten = b1.flatten ++ M := by simp
        have hMl := p1.length_eq
        rw [List.length_append] at hMl
        have e2 : (b1 ++ [M]).flatten.length = q + 2 * n := by rw [e1, List.length_append]; omega
        refine jq ⟨?_⟩
        refine ⟨(b1 ++ [M], rest), ⟨rfl, rfl, rfl, rfl, by show _ = Value.int .i64 _; congr 1; simp only; omega, by show _ = Value.int .i64 _; congr 1; simp only; omega, trivial⟩, ⟨⟨?_, hf1.snoc (by omega) s1, hf2.tl.tl⟩, ?_⟩, by simp only [List.length_cons]; omega⟩
        · simp only [e1]
          refine List.Perm.trans ?_ hp
          rw [List.append_assoc, List.append_assoc, List.append_assoc b1.flatten]
          refine List.Perm.append_left _ ?_
          refine (p1.append_right _).trans (List.Perm.of_eq ?_)
          simp only [List.append_assoc]
        · simp only [e1]
          rw [List.append_assoc (b1.flatten ++ M)]
          exact hS
      | [x], hf2, hpl2, hp, hS, hlL4 =>
        have hx := hf2.hd
        have hxy : [x].flatten = x := by simp
        rw [hxy] at hS hp hpl2 hlL4
        by_cases hr0 : 0 < r.length
        · refine jq ⟨?_⟩
          refine (merge_api_Op hO hcm hlen _ hS.holds (P := b1.flatten) (A := x) (B := r) (S := []) (by rw [List.append_nil]) hlL4 (by omega) (by omega) (by omega) hx.2 hsr (by omega) (by omega) (Nat.le_refl _)).mono ?_
          rintro _ w5 ⟨M, p1, s1, hS'⟩
          have hS := hS.call1 hS'
          rw [List.append_nil] at hS
          have hMl := p1.length_eq
          rw [List.length_append] at hMl
          refine jq ⟨?_⟩
          refine ⟨⟨b1.flatten ++ M, n * 2⟩, ⟨rfl, rfl, rfl, rfl, trivial⟩, ⟨⟨?_, ⟨b1, M, rfl, by rw [Nat.mul_comm]; exact hf1, by simp only; omega, s1⟩, by simp only; omega⟩, hS⟩, by simp only; omega⟩
          refine List.Perm.trans ?_ hp
          rw [List.append_assoc]
          exact p1.append_left _
        · refine jq ⟨?_⟩
          have hr1 : r = [] := List.length_eq_zero_iff.1 (by omega)
          rw [hr1, List.append_nil] at hS hp
          refine ⟨⟨b1.flatten ++ x, n * 2⟩, ⟨rfl, rfl, rfl, rfl, trivial⟩, ⟨⟨hp, ⟨b1, x, rfl, by rw [Nat.mul_comm]; exact hf1, by simp only; omega, hx.2⟩, by simp only; omega⟩, hS⟩, by simp only; omega⟩
      | [], hf2, hpl2, hp, hS, hlL4 =>
        rw [List.flatten_nil, List.append_nil] at hS hp hlL4
        rw [List.flatten_nil, List.length_nil] at hpl2
        refine jq ⟨?_⟩
        refine ⟨⟨b1.flatten ++ r, n * 2⟩, ⟨rfl, rfl, rfl, rfl, trivial⟩, ⟨⟨hp, ⟨b1, r, rfl, by rw [Nat.mul_comm]; exact hf1, by simp only; omega, hsr⟩, by simp only; omega⟩, hS⟩, by simp only; omega⟩
    · refine jq ⟨?_⟩
      refine ⟨l2, hp, hc.all (by omega), hS⟩
theorem sortStable_api_Op {fc : FuncId} {cm : OpM → OpM → Int} (hO : Ord fun x y => decide (cm x y < 0)) (hcm : ∀ (x y : OpM) (w : World), Cl Tryz.prog fc [opDV x, opDV y] w fun v w' => v = .int .i64 (cm x y) ∧ St w [] [] w') {w : World} {g cap len : Nat} {l : List OpM} {tail : List Value} (hh : Holds [(g, .cells ⟨l.flatMap opDC ++ tail⟩ T_api_Op (0, 0))] w) (hlL : l.length = len) (hlen : len ≤ 16777216) :
    Cl Tryz.prog f_slices_SortStableFunc_api_Op_api_Op [.slice (some ⟨g, 0, none⟩) len cap, .func (.func fc) ⟨[]⟩ ⟨[]⟩] w fun _ w' => ∃ l', l'.Perm l ∧ Srt (fun x y => decide (cm x y < 0)) l' ∧ St w [g] [(g, .cells ⟨l'.flatMap opDC ++ tail⟩ T_api_Op (0, 0))] w' := by
  refine en_slices_SortStableFunc_api_Op_api_Op rfl ?_
  refine jq ⟨?_⟩
  refine (stable_api_Op hO hcm hh hlL hlen).mono ?_
  intro _ w' h
  refine jq ⟨?_⟩
  exact h
theorem insertNil_api_Op {w : World} {F : Value} : Cl Tryz.prog f_slices_insertionSortCmpFunc_api_Op [.slice none 0 0, .int .i64 0, .int .i64 0, F] w fun _ w' => St w [] [] w' := by
  have hS := St.start w
  refine en_slices_insertionSortCmpFunc_api_Op rfl ?_
  refine jq ⟨?_⟩
  refine SemW.loop (fun _ : Unit => [(2, .int .i64 0), (8, .int .i64 1)]) (fun _ w' => St w [] [] w') (fun _ => 0) () ⟨rfl, rfl, trivial⟩ hS ?_
  clear hS
  intro _ w1 hS
  refine jq ⟨?_⟩
  exact hS
theorem stableNil_api_Op {w : World} {F : Value} : Cl Tryz.prog f_slices_stableCmpFunc_api_Op [.slice none 0 0, .int .i64 0, F] w fun _ w' => St w [] [] w' := by
  have hS := St.start w
  refine en_slices_stableCmpFunc_api_Op rfl ?_
  refine jq ⟨?_⟩
  refine SemW.loop (fun _ : Unit => [(0, .slice none 0 0), (1, .int .i64 0), (2, F), (6, .int .i64 20), (7, .int .i64 0), (8, .int .i64 20)]) (fun _ w' => St w [] [] w') (fun _ => 0) () ⟨rfl, rfl, rfl, rfl, rfl, rfl, trivial⟩ hS ?_
  clear hS
  intro _ w1 hS
  refine jq ⟨?_⟩
  refine insertNil_api_Op.mono ?_
  intro _ w2 hS'
  have hS := hS.call0 hS'
  refine jq ⟨?_⟩
  refine SemW.loop (fun _ : Unit => [(1, .int .i64 0), (6, .int .i64 20)]) (fun _ w' => St w [] [] w') (fun _ => 0) () ⟨rfl, rfl, trivial⟩ hS ?_
  clear hS
  intro _ w3 hS
  refine jq ⟨?_⟩
  exact hS
theorem sortNil_api_Op {w : World} {F : Value} : Cl Tryz.prog f_slices_SortStableFunc_api_Op_api_Op [.slice none 0 0, F] w fun _ w' => St w [] [] w' := by
  refine en_slices_SortStableFunc_api_Op_api_Op rfl ?_
  refine jq ⟨?_⟩
  refine stableNil_api_Op.mono ?_
  intro _ w' h
  refine jq ⟨?_⟩
  exact h
end Go.Proofs.YtinkmidjbdnibaaGreatDoor
namespace Go.Eng
open Go
theorem eqlSlNil {P : Program} {T0 : Tbl} (hT : TOk P T0) {t e : TypeId} {sz : Nat} {i : TI} (hi : tf T0 t = some i) (hk : i.k = .slice e sz) {x y : Operand} {a : Option Addr} {n c : Nat} {K : Value → Prop} (hK : K (.bool a.isNone)) :
    PureRun P (do eqGuard .eql t x y (.slice a n c) (.slice none 0 0); binOp .eql t (.slice a n c) (.slice none 0 0)) K := by
  have h := und_of hT hi; rw [hk] at h
  have h2 : P.underlying t = some (.slice e) := h.1
  refine ⟨_, fun w => ?_, hK⟩
  rw [Sem.run_bind, run_eqGuard_of P .eql t x y _ _ w (by intro c h; cases h) (by intro h; cases h)]
  exact Lib.run_eql_slice_nil w t e a n c 0 0 h2
end Go.Eng
namespace Go.Proofs.YtinkmidjbdnibaaGreatDoor
open Go Go.Eng Go.Proofs Go.Srt
theorem run_cmpstring (a b : Bytes) (w : World) : (callFunc f_internal_bytealg_abigen_runtime_cmpstring ⟨[Str a, Str b]⟩).run Tryz.prog w = .ok (.value (.int .i64 (Lib.compareBytes a b))) w := by
  rw [run_callFunc_extern func_internal_bytealg_abigen_runtime_cmpstring (by kernel_rfl) (by kernel_rfl) (by kernel_rfl) (e := Extern.BytealgCompare.compare) (by kernel_rfl)]
  have := Lib.run_compareString (P := Tryz.prog) ⟨⟨a⟩⟩ ⟨⟨b⟩⟩ w
  rw [show (Array.mk [Str a, Str b]) = #[Str a, Str b] from rfl]
  rw [this]
  rfl
theorem Compare_spec {w : World} (a b : Bytes) : Cl Tryz.prog f_strings_Compare [Str a, Str b] w fun v w' => v = .int .i64 (Lib.compareBytes a b) ∧ St w [] [] w' := by
  have hS := St.start w
  refine en_strings_Compare rfl ?_
  refine jq ⟨?_⟩
  refine Cl.mono (P := Tryz.prog) (R := fun v w' => v = .int .i64 (Lib.compareBytes a b) ∧ St w [] [] w') ?_ ?_
  · refine en_internal_bytealg_CompareString rfl ?_
    refine jq ⟨?_⟩
    refine Cl.val (run_cmpstring a b w) ?_
    refine jq ⟨?_⟩
    exact ⟨rfl, hS⟩
  · rintro _ w3 ⟨rfl, hS⟩
    refine jq ⟨?_⟩
    exact ⟨rfl, hS⟩
theorem cmp_spec (x y : OpM) (w : World) : Cl Tryz.prog f_rows_Load_1 [opDV x, opDV y] w fun v w' => v = .int .i64 (opCmp x y) ∧ St w [] [] w' := by
  have hS := St.start w
  unfold opDV opDC
  refine en_rows_Load_1 rfl ?_
  refine jq ⟨?_⟩
  refine hS.al ?_
  intro b1 w1 _ hS
  (repeat (refine jt ⟨?_⟩; refine hS.st rfl rfl ?_; intro _ hS)); refine jt ⟨?_⟩
  refine hS.al ?_
  intro b2 w2 _ hS
  (repeat (refine jt ⟨?_⟩; refine hS.st rfl rfl ?_; intro _ hS)); refine jt ⟨?_⟩
  refine Cl.mono (Compare_spec x.1 y.1) ?_
  rintro _ w3 ⟨rfl, hS'⟩
  have hS := hS.call0 hS'
  refine jq ⟨?_⟩
  exact ⟨rfl, hS.nil⟩
theorem opsC_one (l : List OpM) : (l.flatMap opDC).all Value.oneCell' = true := by
  induction l with
  | nil => rfl
  | cons p ps ih => rw [List.flatMap_cons, List.all_append, ih]; rfl
set_option maxHeartbeats 2000000 in
theorem cloneOp_spec {w : World} {a : Option Addr} {cap : Nat} {l : List OpM} (ha : Arr w [] a (l.flatMap opDC)) (hlen : l.length ≤ 1048576) :
    Cl Tryz.prog f_slices_Clone_api_Op_api_Op [.slice a l.length cap] w fun v w' => ∃ a' c' L, v = .slice a' l.length c' ∧ Vec T_api_Op 3 a' l.length c' (l.flatMap opDC) L ∧ St w [] L w' := by
  have hS := St.start w
  have hol := opsC_len l
  refine en_slices_Clone_api_Op_api_Op rfl ?_
  rcases a with _ | p
  · have hl : l = [] := by
      cases l with
      | nil => rfl
      | cons x l => obtain ⟨g, off, h, -⟩ := ha.get (j := 0) (by rw [hol, List.length_cons]; omega); cases h
    subst hl
    refine jq ⟨?_⟩
    refine eqlSlNil tblOk rfl rfl ?_
    refine jq ⟨?_⟩
    exact ⟨_, _, [], rfl, Vec.nil, hS⟩
  · refine jq ⟨?_⟩
    refine eqlSlNil tblOk rfl rfl ?_
    refine jq ⟨?_⟩
    refine hS.al ?_
    intro r w1 _ hS
    have hv : Vec T_api_Op 3 (some ⟨r, 0, none⟩) 0 0 [] [(r, .cells ⟨[]⟩ T_api_Op (0, 0))] := Vec.row r 0 0 [] [] rfl rfl (Nat.le_refl _)
    refine jq ⟨?_⟩
    refine St.app (sz := 3) (m := l.length) tblOk rfl rfl rfl rfl hS hv (news := l.flatMap opDC) (by rw [hol]; omega) (hS.arrOld ha) (opsC_one l) (by show (_ + _) * 40 ≤ _; omega) (by omega) ?_
    intro a1 c1 L1 w2 hv hS
    rw [List.nil_append, Nat.zero_add] at hv
    rw [Nat.zero_add]
    refine jq ⟨?_⟩
    exact ⟨a1, c1, L1, rfl, hv, hS⟩
theorem ErrVars.off {w0 w : World} {H : Heap} (h : ErrVars w0) (hS : St w0 [] H w) : errG0 ∉ keys H ∧ errG1 ∉ keys H := by
  obtain ⟨⟨t, p, e⟩, ⟨t', p', e'⟩⟩ := h
  have key : ∀ (g : Nat) (v : Value), w0.cell? ⟨g, 0, none⟩ = some v → g ∉ keys H := fun g v hv hm => by
    obtain ⟨q, hq, rfl⟩ := List.mem_map.1 hm
    have hlt : q.1 < w0.heap.size := by
      cases hb : w0.heap[q.1]? with
      | none => simp [World.cell?, hb] at hv
      | some o => exact (Array.getElem?_eq_some_iff.1 hb).1
    have := hS.fresh q hq hlt
    simp at this
  exact ⟨key _ _ e, key _ _ e'⟩
theorem sortOps_spec {w : World} {a : Option Addr} {c : Nat} {l : List OpM} {L : Heap} (hv : Vec T_api_Op 3 a l.length c (l.flatMap opDC) L) (hh : Holds L w) (hl : l.length ≤ 16777216) :
    Cl Tryz.prog f_slices_SortStableFunc_api_Op_api_Op [.slice a l.length c, .func (.func f_rows_Load_1) ⟨[]⟩ ⟨[]⟩] w fun _ w' => ∃ (M : List OpM) (L' : Heap), M.Perm l ∧ M.Pairwise (fun x y => opLt y x = false) ∧ Vec T_api_Op 3 a l.length c (M.flatMap opDC) L' ∧ St w (keys L) L' w' := by
  rcases hv.inv with ⟨rfl, h0, rfl, h1, rfl⟩ | ⟨g, tl, rfl, hxx, hl', hnc, rfl⟩
  · rw [h0]
    refine Cl.mono sortNil_api_Op ?_
    intro _ w' hS
    have hl0 : l = [] := List.length_eq_zero_iff.1 h0
    exact ⟨[], [], by rw [hl0], List.Pairwise.nil, Vec.nil, hS⟩
  · refine Cl.mono (sortStable_api_Op opOrd cmp_spec hh rfl hl) ?_
    rintro _ w' ⟨M, hp, hsrt, hS⟩
    have hml := hp.length_eq
    refine ⟨M, _, hp, hsrt.imp fun {x y} h => ?_, Vec.row g l.length c _ tl (by rw [opsC_len, hml]; omega) (by rw [opsC_len, hml, ← opsC_len]; exact hl') hnc, hS⟩
    have h : decide (Lib.compareBytes y.1 x.1 < 0) = false := h
    rw [cmp_less] at h
    exact h
def LoadPost (rs : List OpM) (v : Value) (w w' : World) : Prop :=
  (∃ s a b c ca cb cc La Lr Lb Lc, v = .tuple ⟨[.agg ⟨stV s a b c ca cb cc⟩, .int .i64 0]⟩ ∧ Loads rs s ∧ StOwn s a b c ca cb cc La Lr Lb Lc ∧ St w [] (La ++ (Lr ++ (Lb ++ Lc))) w') ∨
  (v = .tuple ⟨[.agg ⟨[.slice none 0 0, .slice none 0 0, .slice none 0 0]⟩, .int .i64 36]⟩ ∧ (∀ s, ¬ Loads rs s) ∧ St w [] [] w')
structure LDI where
  k : Nat
  Rs : List RecV
  a : Option Addr
  b : Option Addr
  c : Option Addr
  ca : Nat
  cb : Nat
  cc : Nat
  La : Heap
  Lr : Heap
  Lb : Heap
  Lc : Heap
theorem stLen (l : List RecV) : (addAll zSt l).eqs.length + (addAll zSt l).fls.length + (addAll zSt l).pxs.length = l.length := by
  have := (addAll_perm l zSt).length_eq
  unfold recsOf at this
  simp only [List.length_append, List.length_map] at this
  simpa [zSt] using this
set_option maxRecDepth 4000 in
set_option maxHeartbeats 8000000 in
theorem Load_spec {w : World} {a : Option Addr} {cap : Nat} {rs : List OpM} (ha : Arr w [] a (rs.flatMap opDC)) (hlw : rs.length ≤ 1048576) (hsz : ∀ o ∈ rs, o.1.length ≤ 1048576 ∧ o.2.2.length ≤ 100000000) (hbulk : ∀ s, OkS s → (opsOf s).Perm rs → bulkS s + 4 ≤ 8388608) (hE : ErrVars w) :
    Cl Tryz.prog f_rows_Load [.slice a rs.length cap] w fun v w' => LoadPost rs v w w' := by
  have hS := St.start w
  refine en_rows_Load rfl ?_
  refine jq ⟨?_⟩
  refine hS.al ?_
  intro b2 w1 _ hS
  (repeat (refine jt ⟨?_⟩; refine hS.st rfl rfl ?_; intro _ hS)); refine jt ⟨?_⟩
  refine Cl.mono (cloneOp_spec (hS.nil.arrOld ha) (by omega)) ?_
  rintro _ w2 ⟨a4, c4, L4, rfl, hv, hS'⟩
  have hS := hS.callNew hS'
  (repeat (refine jt ⟨?_⟩; refine hS.st rfl rfl ?_; intro _ hS)); refine jt ⟨?_⟩
  refine Cl.mono (sortOps_spec hv (hS.part (L := L4)) (by omega)) ?_
  rintro _ w3 ⟨M, L5, hp, hsrt, hv5, hS'⟩
  have hS := hS.call (L := L4) hS'
  have hml := hp.length_eq
  have hcl := opsC_len M
  (repeat (refine jt ⟨?_⟩; refine hS.st rfl rfl ?_; intro _ hS)); refine jt ⟨?_⟩
  refine hS.al ?_
  intro b5 w4 _ hS
  (repeat (refine jt ⟨?_⟩; refine hS.st rfl rfl ?_; intro _ hS)); refine jt ⟨?_⟩
  refine SemW.loop (fun z : LDI => [(2, ptr b2), (3, .int .i64 0), (5, ptr b5), (12, .slice a4 rs.length c4), (13, .int .i64 rs.length), (14, .int .i64 z.k)])
    (fun z w' => (z.k ≤ M.length ∧ (∀ R ∈ z.Rs, recOk R) ∧ (z.Rs.map fun R => rop (recR R)) = M.take z.k) ∧ StOwn (addAll zSt z.Rs) z.a z.b z.c z.ca z.cb z.cc z.La z.Lr z.Lb z.Lc ∧ St w [] (stH b5 (addAll zSt z.Rs) z.a z.b z.c z.ca z.cb z.cc z.La z.Lr z.Lb z.Lc ++ (L5 ++ [(b2, .cells ⟨[.slice none 0 0, .slice none 0 0, .slice none 0 0]⟩ T_api_State (0, 0))])) w') (fun z => M.length - z.k) ⟨0, [], none, none, none, 0, 0, 0, [], [], [], []⟩
    ⟨rfl, rfl, rfl, rfl, rfl, rfl, trivial⟩ ⟨⟨Nat.zero_le _, by nofun, rfl⟩, ⟨⟨[], Vec.nil, EqsIn.nil⟩, Vec.nil, Vec.nil⟩, hS⟩ ?_
  clear hS
  rintro ⟨k, Rs, sa, sb, sc, ka, kb, kc, La, Lr, Lb, Lc⟩ w5 ⟨⟨hk, hok, htk⟩, hO, hS⟩
  simp only at hk hok htk hO hS ⊢
  have hsl := stLen Rs
  have hrl : Rs.length = k := by
    have := congrArg List.length htk
    rw [List.length_map, List.length_take] at this; omega
  by_cases hkl : k < M.length
  · rcases hv5.inv with ⟨-, h0, -⟩ | ⟨g, tl, rfl, hxx, hl', hnc, rfl⟩
    · omega
    have hmem : M[k] ∈ rs := hp.mem_iff.1 (List.getElem_mem hkl)
    obtain ⟨hwk, hwv⟩ := hsz _ hmem
    have hsucc := List.take_succ_eq_append_getElem hkl
    obtain ⟨o, ho⟩ : ∃ o, o = M[k] := ⟨_, rfl⟩
    rw [← ho] at hmem hwk hwv hsucc
    (repeat (refine jt ⟨?_⟩; refine hS.st rfl rfl ?_; intro _ hS)); refine jt ⟨?_⟩
    refine St.ldE (sz := 3) (cv := opDC) (fun _ => rfl) hS hkl (by omega) ?_
    rw [← ho]
    (repeat (refine jt ⟨?_⟩; refine hS.st rfl rfl ?_; intro _ hS)); refine jt ⟨?_⟩
    refine hS.al ?_
    intro b7 w6 _ hS
    (repeat (refine jt ⟨?_⟩; refine hS.st rfl rfl ?_; intro _ hS)); refine jt ⟨?_⟩
    refine Cl.mono (record_spec hO (hS.part (L := stH b5 (addAll zSt Rs) sa sb sc ka kb kc La Lr Lb Lc)) hwk hwv (by omega) (hE.keep hS (by simp) (by simp)) (hE.off (hS.sub ?_))) ?_
    · exact List.Sublist.cons _ (List.sublist_append_left _ _)
    rintro _ w7 (⟨rfl, R, hR, hre, a', b', c', ka', kb', kc', La', Lr', Lb', Lc', hO', hS'⟩ | ⟨rfl, hno, hS'⟩)
    · have hS := hS.call (L := stH b5 (addAll zSt Rs) sa sb sc ka kb kc La Lr Lb Lc) hS'
      have eA : addAll zSt (Rs ++ [R]) = addR (addAll zSt Rs) R := by unfold addAll; rw [List.foldl_append]; rfl
      (repeat (refine jt ⟨?_⟩; refine hS.st rfl rfl ?_; intro _ hS)); refine jt ⟨?_⟩
      refine ⟨⟨k + 1, Rs ++ [R], a', b', c', ka', kb', kc', La', Lr', Lb', Lc'⟩, ⟨rfl, rfl, rfl, rfl, rfl, rfl, trivial⟩, ⟨⟨by simp only; omega, fun Q hQ => ?_, ?_⟩, ?_, ?_⟩, by simp only; omega⟩
      · rcases List.mem_append.1 hQ with hQ | hQ
        · exact hok Q hQ
        · rw [List.mem_singleton] at hQ; subst hQ; exact hR
      · simp only
        rw [List.map_append, htk, hsucc]
        show _ ++ [rop (recR R)] = _
        rw [hre]
      · simp only; rw [eA]; exact hO'
      · simp only; rw [eA]; exact hS.sub (List.sublist_cons_self _ _)
    · have hS := hS.call (L := stH b5 (addAll zSt Rs) sa sb sc ka kb kc La Lr Lb Lc) hS'
      (repeat (refine jt ⟨?_⟩; refine hS.st rfl rfl ?_; intro _ hS)); refine jt ⟨?_⟩
      exact .inr ⟨rfl, loads_no hmem hno, hS.nil⟩
  · have hkm : k = M.length := by omega
    rw [hkm, List.take_length] at htk
    have hokS := okS_all hok
    have hbk := hbulk _ hokS ((perm_map_all (l := Rs)).trans (by rw [htk]; exact hp))
    have hat := hO.at (hS.sub ((List.sublist_cons_self _ _).trans (List.sublist_append_left _ _))) hokS hbk
    (repeat (refine jt ⟨?_⟩; refine hS.st rfl rfl ?_; intro _ hS)); refine jt ⟨?_⟩
    refine Cl.mono (inForm_spec hat) ?_
    rintro _ w6 ⟨⟨bv, rfl, hiff⟩, hS'⟩
    have hS := hS.call0 hS'
    cases bv with
    | true =>
      (repeat (refine jt ⟨?_⟩; refine hS.st rfl rfl ?_; intro _ hS)); refine jt ⟨?_⟩
      exact .inl ⟨addAll zSt Rs, sa, sb, sc, ka, kb, kc, La, Lr, Lb, Lc, rfl, loads_yes hp hok htk (hiff.1 rfl), hO, hS.sub ((List.sublist_cons_self _ _).trans (List.sublist_append_left _ _))⟩
    | false =>
      (repeat (refine jt ⟨?_⟩; refine hS.st rfl rfl ?_; intro _ hS)); refine jt ⟨?_⟩
      exact .inr ⟨rfl, loads_form hsrt hp hok htk (fun h => by have := hiff.2 h; cases this), hS.nil⟩
theorem split_sorted (o : OpM) : ∀ (l : List OpM), l.Pairwise (fun x y => opLt y x = false) → ∃ p q, l = p ++ q ∧ (∀ r ∈ p, Op.bytesLess o.1 r.1 = false) ∧ (∀ r ∈ q, Op.bytesLess o.1 r.1 = true) ∧ (p ++ [o] ++ q).Pairwise (fun x y => opLt y x = false)
  | [], _ => ⟨[], [], rfl, nofun, nofun, by simp⟩
  | x :: l, h => by
    obtain ⟨hx, hl⟩ := List.pairwise_cons.1 h
    by_cases hlt : Op.bytesLess o.1 x.1 = true
    · have hall : ∀ r ∈ x :: l, Op.bytesLess o.1 r.1 = true := by
        intro r hr
        rcases List.mem_cons.1 hr with rfl | hr
        · exact hlt
        · have h1 : Op.bytesLess r.1 x.1 = false := hx r hr
          rcases bless_tri r.1 x.1 with h2 | h2 | h2
          · rw [h1] at h2; cases h2
          · rw [h2]; exact hlt
          · exact bless_trans _ _ _ hlt h2
      refine ⟨[], x :: l, rfl, nofun, hall, ?_⟩
      show (o :: x :: l).Pairwise _
      exact List.pairwise_cons.2 ⟨fun y hy => bless_asym (hall y hy), h⟩
    · have hlt : Op.bytesLess o.1 x.1 = false := by simpa using hlt
      obtain ⟨p, q, rfl, hp, hq, hs⟩ := split_sorted o l hl
      refine ⟨x :: p, q, rfl, fun r hr => ?_, hq, ?_⟩
      · rcases List.mem_cons.1 hr with rfl | hr
        · exact hlt
        · exact hp r hr
      · show (x :: (p ++ [o] ++ q)).Pairwise _
        refine List.pairwise_cons.2 ⟨fun y hy => ?_, hs⟩
        simp only [List.mem_append, List.mem_singleton] at hy
        rcases hy with (hy | rfl) | hy
        · exact hx y (by simp [hy])
        · exact hlt
        · exact hx y (by simp [hy])
theorem ins_perm (p q : List OpM) (o : OpM) : (p ++ [o] ++ q).Perm ((p ++ q) ++ [o]) := by
  rw [List.append_assoc, List.append_assoc]
  exact List.Perm.append_left _ List.perm_append_comm
theorem vec_shape {e : TypeId} {sz : Nat} {a : Option Addr} {n cap : Nat} {xs : List Value} {L : Heap} (h : Vec e sz a n cap xs L) : (a = none ∨ ∃ g off, a = some ⟨g, off, none⟩) ∧ n ≤ cap := by
  rcases h.inv with ⟨h1, h2, h3, -⟩ | ⟨g, l, h1, -, -, h2, -⟩
  · exact ⟨.inl h1, by omega⟩
  · exact ⟨.inr ⟨g, 0, h1⟩, h2⟩
structure LPI where
  i : Nat
  m : List OpM
  a : Option Addr
  c : Nat
abbrev zStC : List Value := [.slice none 0 0, .slice none 0 0, .slice none 0 0]
set_option maxRecDepth 4000 in
set_option maxHeartbeats 8000000 in
theorem Load22_spec {w : World} {a : Option Addr} {cap : Nat} {rs : List OpM} (ha : Arr w [] a (rs.flatMap opDC)) (hlw : rs.length ≤ 1048576) (hsz : ∀ o ∈ rs, o.1.length ≤ 1048576 ∧ o.2.2.length ≤ 100000000) (hW : opsW rs ≤ 1048576) (hE : ErrVars w) :
    Cl Tryz.prog f_tarmacref22_Load [.slice a rs.length cap] w fun v w' => LoadPost rs v w w' := by
  have hS := St.start w
  have hcr := opsC_len rs
  refine en_tarmacref22_Load rfl ?_
  refine jq ⟨?_⟩
  refine hS.al ?_
  intro b2 w1 _ hS
  (repeat (refine jt ⟨?_⟩; refine hS.st rfl rfl ?_; intro _ hS)); refine jt ⟨?_⟩
  refine SemW.loop (fun x : LPI => [(2, ptr b2), (3, .int .i64 0), (4, .slice x.a x.m.length x.c), (12, .slice a rs.length cap), (13, .int .i64 rs.length), (14, .int .i64 x.i)])
    (fun x w' => (x.i ≤ rs.length ∧ x.m.Perm (rs.take x.i) ∧ x.m.Pairwise (fun x y => opLt y x = false)) ∧ ∃ L, Vec T_api_Op 3 x.a x.m.length x.c (x.m.flatMap opDC) L ∧ St w [] (L ++ [(b2, .cells ⟨zStC⟩ T_api_State (0, 0))]) w') (fun x => rs.length - x.i) ⟨0, [], none, 0⟩
    ⟨rfl, rfl, rfl, rfl, rfl, rfl, trivial⟩ ⟨⟨Nat.zero_le _, List.Perm.refl _, List.Pairwise.nil⟩, [], Vec.nil, hS⟩ ?_
  clear hS
  rintro ⟨i, m, a4, c4⟩ w2 ⟨⟨hi, hmp, hms⟩, L, hv, hS⟩
  simp only at hi hmp hms hv hS ⊢
  have hml : m.length = i := by
    have := hmp.length_eq
    rw [List.length_take] at this; omega
  by_cases hil : i < rs.length
  · obtain ⟨g, off, rfl, -, -⟩ := ha.get (j := i * 3) (by omega)
    have hat := opsC_at rs i hil
    have hsucc := List.take_succ_eq_append_getElem hil
    obtain ⟨o, ho⟩ : ∃ o, o = rs[i] := ⟨_, rfl⟩
    rw [← ho] at hat hsucc
    (repeat (refine jt ⟨?_⟩; refine hS.st rfl rfl ?_; intro _ hS)); refine jt ⟨?_⟩
    refine Arr.ldn hS ha rfl (k := i * 3) hat rfl ?_
    unfold opDC
    (repeat (refine jt ⟨?_⟩; refine hS.st rfl rfl ?_; intro _ hS)); refine jt ⟨?_⟩
    refine hS.al ?_
    intro b6 w3 _ hS
    (repeat (refine jt ⟨?_⟩; refine hS.st rfl rfl ?_; intro _ hS)); refine jt ⟨?_⟩
    obtain ⟨p, q, hpq, hp, hq, hs⟩ := split_sorted o m hms
    obtain ⟨hsh, hcap⟩ := vec_shape hv
    have hS : St w [] ((b6, .cells ⟨[Str o.1, .bool o.2.1, Str o.2.2]⟩ T_api_Op (0, 0)) :: (L ++ [(b2, .cells ⟨zStC⟩ T_api_State (0, 0))])) _ := hS
    refine Cl.mono (put22_spec (o := o) hpq hp hq (hv.arr (L := L) hS (by simp)) hsh hcap (by omega)) ?_
    rintro _ w4 ⟨a', c', L', rfl, hv', hS'⟩
    have hS := hS.callNew hS'
    (repeat (refine jt ⟨?_⟩; refine hS.st rfl rfl ?_; intro _ hS)); refine jt ⟨?_⟩
    refine ⟨⟨i + 1, p ++ [o] ++ q, a', c'⟩, ⟨rfl, rfl, rfl, rfl, rfl, rfl, trivial⟩, ⟨⟨by simp only; omega, ?_, hs⟩, L', hv', ?_⟩, by simp only; omega⟩
    · simp only
      rw [hsucc]
      refine (ins_perm p q o).trans ?_
      rw [← hpq]
      exact List.Perm.append_right _ hmp
    · exact hS.sub (List.Sublist.append_left (List.Sublist.cons _ (List.sublist_append_right _ _)) L')
  have hie : i = rs.length := by omega
  rw [hie, List.take_length] at hmp
  have hml : m.length = rs.length := by omega
  have hmW : opsW m ≤ 1048576 := by rw [opsW_perm hmp]; exact hW
  have hsz : ∀ o ∈ m, o.1.length ≤ 1048576 ∧ o.2.2.length ≤ 100000000 := fun o ho => hsz o (hmp.mem_iff.1 ho)
  have hcm := opsC_len m
  (repeat (refine jt ⟨?_⟩; refine hS.st rfl rfl ?_; intro _ hS)); refine jt ⟨?_⟩
  refine hS.al ?_
  intro b7 w3 _ hS
  (repeat (refine jt ⟨?_⟩; refine hS.st rfl rfl ?_; intro _ hS)); refine jt ⟨?_⟩
  refine SemW.loop (fun z : LDI => [(2, ptr b2), (3, .int .i64 0), (4, .slice a4 m.length c4), (7, ptr b7), (22, .slice a4 m.length c4), (23, .int .i64 m.length), (24, .int .i64 z.k)])
    (fun z w' => (z.k ≤ m.length ∧ Looses (m.take z.k) z.Rs) ∧ StOwn (addAll zSt z.Rs) z.a z.b z.c z.ca z.cb z.cc z.La z.Lr z.Lb z.Lc ∧ St w [] (stH b7 (addAll zSt z.Rs) z.a z.b z.c z.ca z.cb z.cc z.La z.Lr z.Lb z.Lc ++ (L ++ [(b2, .cells ⟨zStC⟩ T_api_State (0, 0))])) w') (fun z => m.length - z.k) ⟨0, [], none, none, none, 0, 0, 0, [], [], [], []⟩
    ⟨rfl, rfl, rfl, rfl, rfl, rfl, rfl, trivial⟩ ⟨⟨Nat.zero_le _, Looses.nil⟩, ⟨⟨[], Vec.nil, EqsIn.nil⟩, Vec.nil, Vec.nil⟩, hS⟩ ?_
  clear hS
  rintro ⟨k, Rs, sa, sb, sc, ka, kb, kc, La, Lr, Lb, Lc⟩ w5 ⟨⟨hk, hlo⟩, hO, hS⟩
  simp only at hk hlo hO hS ⊢
  have hsl := stLen Rs
  have hrl : Rs.length = k := by
    have := hlo.len
    rw [List.length_take] at this; omega
  by_cases hkl : k < m.length
  · rcases hv.inv with ⟨-, h0, -⟩ | ⟨g, tl, rfl, hxx, hl', hnc, rfl⟩
    · omega
    have hmem : m[k] ∈ m := List.getElem_mem hkl
    obtain ⟨hwk, hwv⟩ := hsz _ hmem
    have hsucc := List.take_succ_eq_append_getElem hkl
    obtain ⟨o, ho⟩ : ∃ o, o = m[k] := ⟨_, rfl⟩
    rw [← ho] at hmem hwk hwv hsucc
    (repeat (refine jt ⟨?_⟩; refine hS.st rfl rfl ?_; intro _ hS)); refine jt ⟨?_⟩
    refine St.ldE (sz := 3) (cv := opDC) (fun _ => rfl) hS hkl (by omega) ?_
    rw [← ho]
    (repeat (refine jt ⟨?_⟩; refine hS.st rfl rfl ?_; intro _ hS)); refine jt ⟨?_⟩
    refine hS.al ?_
    intro b9 w6 _ hS
    (repeat (refine jt ⟨?_⟩; refine hS.st rfl rfl ?_; intro _ hS)); refine jt ⟨?_⟩
    refine Cl.mono (one22_spec hO (hS.part (L := stH b7 (addAll zSt Rs) sa sb sc ka kb kc La Lr Lb Lc)) hwk hwv (by omega) (hE.keep hS (by simp) (by simp)) (hE.off (hS.sub ?_))) ?_
    · exact List.Sublist.cons _ (List.sublist_append_left _ _)
    rintro _ w7 (⟨rfl, R, hR, a', b', c', ka', kb', kc', La', Lr', Lb', Lc', hO', hS'⟩ | ⟨e, rfl, hne, hno, hS'⟩)
    · have hS := hS.call (L := stH b7 (addAll zSt Rs) sa sb sc ka kb kc La Lr Lb Lc) hS'
      have eA : addAll zSt (Rs ++ [R]) = addR (addAll zSt Rs) R := by unfold addAll; rw [List.foldl_append]; rfl
      (repeat (refine jt ⟨?_⟩; refine hS.st rfl rfl ?_; intro _ hS)); refine jt ⟨?_⟩
      refine ⟨⟨k + 1, Rs ++ [R], a', b', c', ka', kb', kc', La', Lr', Lb', Lc'⟩, ⟨rfl, rfl, rfl, rfl, rfl, rfl, rfl, trivial⟩, ⟨⟨by simp only; omega, ?_⟩, ?_, ?_⟩, by simp only; omega⟩
      · simp only; rw [hsucc]; exact Looses.snoc hlo hR
      · simp only; rw [eA]; exact hO'
      · simp only; rw [eA]; exact hS.sub (List.sublist_cons_self _ _)
    · have hS := hS.call (L := stH b7 (addAll zSt Rs) sa sb sc ka kb kc La Lr Lb Lc) hS'
      (repeat (refine jt ⟨?_⟩; refine hS.st rfl rfl ?_; intro _ hS)); refine jt ⟨?_⟩
      exact .inr ⟨rfl, loads_no (hmp.mem_iff.1 hmem) hno, hS.nil⟩
  · have hkm : k = m.length := by omega
    rw [hkm, List.take_length] at hlo
    have hbk := hlo.bulkS
    have hokW := hlo.okW
    have honly := fun {s} => hlo.loads hms hmp (s := s)
    have hat := hO.atW (hS.sub ((List.sublist_cons_self _ _).trans (List.sublist_append_left _ _))) hokW (by omega)
    have hops : (recs (addAll zSt Rs)).length = Rs.length := by
      unfold recs; simp only [List.length_append, List.length_map]; omega
    (repeat (refine jt ⟨?_⟩; refine hS.st rfl rfl ?_; intro _ hS)); refine jt ⟨?_⟩
    refine Cl.mono (All22_spec hat) ?_
    rintro _ w6 (⟨hf, rfl, hS'⟩ | ⟨hf, al, cl, Ll, rfl, hva, hS'⟩)
    · have hS := hS.call0 hS'
      (repeat (refine jt ⟨?_⟩; refine hS.st rfl rfl ?_; intro _ hS)); refine jt ⟨?_⟩
      refine .inr ⟨rfl, fun s hL => hf ?_, hS.nil⟩
      rw [← (honly hL).1]; exact hL.2.1
    · have hS := hS.callNew hS'
      have hol : (opsOf (addAll zSt Rs)).length = (recs (addAll zSt Rs)).length := by unfold opsOf; rw [List.length_map]
      rw [← hol] at hva ⊢
      rw [← ropsC, show (recs (addAll zSt Rs)).map rop = opsOf (addAll zSt Rs) from rfl] at hva
      (repeat (refine jt ⟨?_⟩; refine hS.st rfl rfl ?_; intro _ hS)); refine jt ⟨?_⟩
      refine Cl.mono (Same22_spec (l := opsOf (addAll zSt Rs)) (m := m) (hva.arr (L := Ll) hS (by simp)) (hv.arr (L := L) hS (by simp)) (by omega) (by omega)) ?_
      rintro _ w7 ⟨rfl, hS'⟩
      have hS := hS.call0 hS'
      by_cases heq : opsOf (addAll zSt Rs) = m
      · rw [decide_eq_true heq]
        (repeat (refine jt ⟨?_⟩; refine hS.st rfl rfl ?_; intro _ hS)); refine jt ⟨?_⟩
        exact .inl ⟨addAll zSt Rs, sa, sb, sc, ka, kb, kc, La, Lr, Lb, Lc, rfl, ⟨hokW.s hf, hf, by rw [heq]; exact hmp⟩, hO, hS.sub (((List.sublist_cons_self _ _).trans (List.sublist_append_left _ _)).trans (List.sublist_append_right Ll _))⟩
      · rw [decide_eq_false heq]
        (repeat (refine jt ⟨?_⟩; refine hS.st rfl rfl ?_; intro _ hS)); refine jt ⟨?_⟩
        refine .inr ⟨rfl, fun s hL => heq ?_, hS.nil⟩
        have h := honly hL
        rw [← h.1]; exact h.2
end Go.Proofs.YtinkmidjbdnibaaGreatDoor
namespace Go.Eng
open Go
end Go.Eng
namespace Go.Proofs.YtinkmidjbdnibaaGreatDoor
open Go Go.Eng Go.Proofs
set_option maxHeartbeats 2000000 in
theorem sameRows_spec {w : World} {a b : Option Addr} {ca cb : Nat} {rs qs : List RowM} (hr : RowsAt w a ca rs) (hq : RowsAt w b cb qs) (hl : rs.length ≤ 1099511627776) :
    Cl Tryz.prog f_tarmacref13_SameRows [.slice a rs.length ca, .slice b qs.length cb] w fun v w' => v = .bool (decide (rs = qs)) ∧ St w [] [] w' := by
  have hS := St.start w
  refine en_tarmacref13_SameRows rfl ?_
  by_cases hlen : rs.length = qs.length
  · refine jq ⟨?_⟩
    refine SemW.loop (fun k : Nat => [(0, .slice a rs.length ca), (1, .slice b qs.length cb), (12, .int .i64 rs.length), (13, .int .i64 k)])
      (fun k w' => (k ≤ rs.length ∧ rs.take k = qs.take k) ∧ St w [] [] w') (fun k => rs.length - k) 0
      ⟨rfl, rfl, rfl, rfl, trivial⟩ ⟨⟨Nat.zero_le _, rfl⟩, hS⟩ ?_
    clear hS
    rintro k w1 ⟨⟨hk, hno⟩, hS⟩
    by_cases hkl : k < rs.length
    · have hkq : k < qs.length := by omega
      obtain ⟨g, off, rfl⟩ := hr.pos (by omega)
      obtain ⟨g', off', rfl⟩ := hq.pos (by omega)
      have hat := flatRow_take rs k hkl
      have haq := flatRow_take qs k hkq
      have hsr := List.take_succ_eq_append_getElem hkl
      have hsq := List.take_succ_eq_append_getElem hkq
      have hne : ¬ rs[k] = qs[k] → ¬ rs = qs := fun h e => h (by subst e; rfl)
      generalize rs[k] = x at hat hsr hne
      generalize qs[k] = y at haq hsq hne
      refine jq ⟨?_⟩
      refine SemW.draw tblOk mixed (fun w' => St w [] [] w') [] [0, 1, 2, 3, 4, 5, 6, 7, 8] (by kernel_rfl) hS.drew ?_
      have hS := hS.drew
      refine jr ⟨?_⟩
      refine Arr.ldnC hr.arr (k := k * 5) hat rfl rfl ?_
      refine jr ⟨?_⟩
      refine Arr.ldnC hq.arr (k := k * 5) haq rfl rfl ?_
      refine jr ⟨?_⟩
      refine neqAgg (n := 2) (by omega) (by kernel_rfl) (eqRow x y) ?_
      by_cases hxy : x = y
      · rw [decide_eq_true hxy, Bool.not_true]
        refine jr ⟨?_⟩
        exact ⟨k + 1, ⟨rfl, rfl, rfl, rfl, trivial⟩, ⟨⟨by omega, by rw [hsr, hsq, hno, hxy]⟩, hS⟩, by omega⟩
      · rw [decide_eq_false hxy, Bool.not_false]
        refine jr ⟨?_⟩
        exact ⟨by rw [decide_eq_false (hne hxy)], hS⟩
    · have hke : k = rs.length := by omega
      rw [hke, List.take_length, hlen, List.take_length] at hno
      refine jq ⟨?_⟩
      exact ⟨by rw [decide_eq_true hno], hS⟩
  · refine jq ⟨?_⟩
    exact ⟨by rw [decide_eq_false (fun e => hlen (by rw [e]))], hS⟩
theorem eqWho (a : Int) (f i : Bool) (b : Int) (g j : Bool) : EqV 2 Tryz.prog T_api_Who (.agg ⟨[.int .i64 a, .bool f, .bool i]⟩) (.agg ⟨[.int .i64 b, .bool g, .bool j]⟩) (decide (a = b) && (decide (f = g) && (decide (i = j) && true))) := by
  refine EqV.struct (d := [(T_int, 0), (T_bool, 1), (T_bool, 2)]) (by kernel_rfl) (by kernel_rfl) (by kernel_rfl) ?_
  refine EqFs.cons (PartIs.one tblOk rfl rfl rfl) (PartIs.one tblOk rfl rfl rfl) (EqV.int tblOk rfl rfl _ _) ?_
  refine EqFs.cons (PartIs.one tblOk rfl rfl rfl) (PartIs.one tblOk rfl rfl rfl) (EqV.bool tblOk rfl rfl _ _) ?_
  exact EqFs.cons (PartIs.one tblOk rfl rfl rfl) (PartIs.one tblOk rfl rfl rfl) (EqV.bool tblOk rfl rfl _ _) EqFs.nil
theorem eqLim (a b c d a' b' c' d' : Int) : EqV 2 Tryz.prog T_4_int (.agg ⟨[.int .i64 a, .int .i64 b, .int .i64 c, .int .i64 d]⟩) (.agg ⟨[.int .i64 a', .int .i64 b', .int .i64 c', .int .i64 d']⟩) (decide (a = a') && (decide (b = b') && (decide (c = c') && (decide (d = d') && true)))) := by
  obtain ⟨inf, hinf, -⟩ := info_of tblOk (t := T_int) rfl
  refine EqV.arr (m := 4) (e := T_int) (sz := 1) (by kernel_rfl) hinf (by kernel_rfl) ?_
  show EqIt _ _ _ _ _ _ [0, 1, 2, 3] _
  refine EqIt.cons (PartIs.one tblOk rfl rfl rfl) (PartIs.one tblOk rfl rfl rfl) (EqV.int tblOk rfl rfl _ _) ?_
  refine EqIt.cons (PartIs.one tblOk rfl rfl rfl) (PartIs.one tblOk rfl rfl rfl) (EqV.int tblOk rfl rfl _ _) ?_
  refine EqIt.cons (PartIs.one tblOk rfl rfl rfl) (PartIs.one tblOk rfl rfl rfl) (EqV.int tblOk rfl rfl _ _) ?_
  exact EqIt.cons (PartIs.one tblOk rfl rfl rfl) (PartIs.one tblOk rfl rfl rfl) (EqV.int tblOk rfl rfl _ _) EqIt.nil
theorem PaxM.ext' {a b : PaxM} (h0 : a.id = b.id) (h1 : a.flight = b.flight) (h2 : a.cab = b.cab) (h3 : a.fit = b.fit) (h4 : a.infant = b.infant) (h5 : a.vol = b.vol) (h6 : a.stb = b.stb) (h7 : a.cls = b.cls) (h8 : a.status = b.status) (h9 : a.tick = b.tick) (h10 : a.pass = b.pass) (h11 : a.num = b.num) (h12 : a.c = b.c) : a = b := by
  cases a; cases b
  simp only at h0 h1 h2 h3 h4 h5 h6 h7 h8 h9 h10 h11 h12
  subst h0; subst h1; subst h2; subst h3; subst h4; subst h5; subst h6; subst h7; subst h8; subst h9; subst h10; subst h11; subst h12
  rfl
instance : DecidableEq PaxM := fun a b =>
  if h : a.id = b.id ∧ a.flight = b.flight ∧ a.cab = b.cab ∧ a.fit = b.fit ∧ a.infant = b.infant ∧ a.vol = b.vol ∧ a.stb = b.stb ∧ a.cls = b.cls ∧ a.status = b.status ∧ a.tick = b.tick ∧ a.pass = b.pass ∧ a.num = b.num ∧ a.c = b.c then
    isTrue (by obtain ⟨h0, h1, h2, h3, h4, h5, h6, h7, h8, h9, h10, h11, h12⟩ := h; exact PaxM.ext' h0 h1 h2 h3 h4 h5 h6 h7 h8 h9 h10 h11 h12)
  else isFalse (fun e => h (by rw [e]; exact ⟨rfl, rfl, rfl, rfl, rfl, rfl, rfl, rfl, rfl, rfl, rfl, rfl, rfl⟩))
def samePax (x y : PaxM) : Bool := decide (x.id = y.id) && (decide (x.flight = y.flight) && ((decide (x.cab = y.cab) && (decide (x.fit = y.fit) && (decide (x.infant = y.infant) && true))) && (decide (x.vol = y.vol) && (decide (x.stb = y.stb) && (decide (x.cls = y.cls) && (decide (x.status = y.status) && (decide (x.tick = y.tick) && (decide (x.pass = y.pass) && (decide (x.num = y.num ∧ x.c = y.c) && true))))))))
  )
theorem samePax_eq (x y : PaxM) : samePax x y = decide (x = y) := by
  rw [Bool.eq_iff_iff]
  unfold samePax
  simp only [Bool.and_eq_true, decide_eq_true_eq, and_true]
  constructor
  · rintro ⟨h0, h1, ⟨h2, h3, h4⟩, h5, h6, h7, h8, h9, h10, h11, h12⟩
    exact PaxM.ext' h0 h1 h2 h3 h4 h5 h6 h7 h8 h9 h10 h11 h12
  · rintro rfl; simp
set_option maxRecDepth 4000 in
set_option maxHeartbeats 4000000 in
theorem eqPax (x y : PaxM) : EqV 3 Tryz.prog T_api_Pax (.agg ⟨paxC x⟩) (.agg ⟨paxC y⟩) (decide (x = y)) := by
  rw [← samePax_eq]
  unfold samePax
  refine EqV.struct (d := [(T_int, 0), (T_int, 1), (T_api_Who, 2), (T_bool, 5), (T_bool, 6), (T_int, 7), (T_int, 8), (T_int, 9), (T_int, 10), (T_api_Seat, 11)]) (by kernel_rfl) (by kernel_rfl) (by kernel_rfl) ?_
  refine EqFs.cons (PartIs.one tblOk rfl rfl rfl) (PartIs.one tblOk rfl rfl rfl) (EqV.int tblOk rfl rfl _ _) ?_
  refine EqFs.cons (PartIs.one tblOk rfl rfl rfl) (PartIs.one tblOk rfl rfl rfl) (EqV.int tblOk rfl rfl _ _) ?_
  refine EqFs.cons (PartIs.agg (vs := [.int .i64 x.cab, .bool x.fit, .bool x.infant]) tblOk rfl rfl rfl) (PartIs.agg (vs := [.int .i64 y.cab, .bool y.fit, .bool y.infant]) tblOk rfl rfl rfl) (eqWho _ _ _ _ _ _) ?_
  refine EqFs.cons (PartIs.one tblOk rfl rfl rfl) (PartIs.one tblOk rfl rfl rfl) (EqV.bool tblOk rfl rfl _ _) ?_
  refine EqFs.cons (PartIs.one tblOk rfl rfl rfl) (PartIs.one tblOk rfl rfl rfl) (EqV.bool tblOk rfl rfl _ _) ?_
  refine EqFs.cons (PartIs.one tblOk rfl rfl rfl) (PartIs.one tblOk rfl rfl rfl) (EqV.int tblOk rfl rfl _ _) ?_
  refine EqFs.cons (PartIs.one tblOk rfl rfl rfl) (PartIs.one tblOk rfl rfl rfl) (EqV.int tblOk rfl rfl _ _) ?_
  refine EqFs.cons (PartIs.one tblOk rfl rfl rfl) (PartIs.one tblOk rfl rfl rfl) (EqV.int tblOk rfl rfl _ _) ?_
  refine EqFs.cons (PartIs.one tblOk rfl rfl rfl) (PartIs.one tblOk rfl rfl rfl) (EqV.int tblOk rfl rfl _ _) ?_
  exact EqFs.cons (PartIs.agg (vs := [.int .i64 x.num, .int .u8 x.c]) tblOk rfl rfl rfl) (PartIs.agg (vs := [.int .i64 y.num, .int .u8 y.c]) tblOk rfl rfl rfl) (eqSeat _ _ _ _) EqFs.nil
theorem eqFl1 (x : FlightM) : EqV 3 Tryz.prog T_api_Flight (.agg ⟨flC x⟩) (.agg ⟨flC x⟩) true := by
  have h : EqV 3 Tryz.prog T_api_Flight (.agg ⟨flC x⟩) (.agg ⟨flC x⟩) (decide (x.id = x.id) && (decide (x.equip = x.equip) && (decide (x.phase = x.phase) && (decide (x.seq = x.seq) && ((decide (x.l0 = x.l0) && (decide (x.l1 = x.l1) && (decide (x.l2 = x.l2) && (decide (x.l3 = x.l3) && true)))) && true))))) := by
    refine EqV.struct (d := [(T_int, 0), (T_int, 1), (T_int, 2), (T_int, 3), (T_4_int, 4)]) (by kernel_rfl) (by kernel_rfl) (by kernel_rfl) ?_
    refine EqFs.cons (PartIs.one tblOk rfl rfl rfl) (PartIs.one tblOk rfl rfl rfl) (EqV.int tblOk rfl rfl _ _) ?_
    refine EqFs.cons (PartIs.one tblOk rfl rfl rfl) (PartIs.one tblOk rfl rfl rfl) (EqV.int tblOk rfl rfl _ _) ?_
    refine EqFs.cons (PartIs.one tblOk rfl rfl rfl) (PartIs.one tblOk rfl rfl rfl) (EqV.int tblOk rfl rfl _ _) ?_
    refine EqFs.cons (PartIs.one tblOk rfl rfl rfl) (PartIs.one tblOk rfl rfl rfl) (EqV.int tblOk rfl rfl _ _) ?_
    exact EqFs.cons (PartIs.agg (vs := [.int .i64 x.l0, .int .i64 x.l1, .int .i64 x.l2, .int .i64 x.l3]) tblOk rfl rfl rfl) (PartIs.agg (vs := [.int .i64 x.l0, .int .i64 x.l1, .int .i64 x.l2, .int .i64 x.l3]) tblOk rfl rfl rfl) (eqLim _ _ _ _ _ _ _ _) EqFs.nil
  simpa using h
theorem rsl_rows' {w : World} {a : Option Addr} {cap : Nat} {rs : List RowM} (h : RSl 5 RRow w [.slice a rs.length cap] rs) : RowsAt w a cap rs := by
  have hl := flatRow_len rs
  refine ⟨fun j v hj => ?_, ?_⟩
  · have hjl : j < rs.length * 5 := by have := (List.getElem?_eq_some_iff.1 hj).1; omega
    obtain ⟨b, off, cs, h1, h2, h3, h4, -⟩ := h.at (j := j / 5) (by omega)
    refine ⟨b, off, h1, by simp, ?_⟩
    have e : j = j / 5 * 5 + j % 5 := by omega
    rw [e, flatRow_at rs (j / 5) (by omega) (j % 5) (by omega), ← h4] at hj
    have := h3 _ _ hj
    rw [← e] at this; exact this
  · obtain ⟨a', cap', h1, h2, -, -⟩ := h.ex
    simp only [List.cons.injEq, Value.slice.injEq, and_true] at h1
    omega
theorem RSl.ldnCH {β : Type} {sz : Nat} {R : CellR β} {w0 : World} {a : Option Addr} {n cap : Nat} {xs : List β} (h : RSl sz R w0 [.slice a n cap] xs) {j : Nat} (hj : j < xs.length) :
    ∃ b off cs, a = some ⟨b, off, none⟩ ∧ R w0 cs xs[j] ∧ ∀ (H : Heap) (q : Nat) (K : List Value → Prop), q = off + j * sz → K cs → LdN (fun w' => St w0 [] H w') sz b q K := by
  obtain ⟨b, off, cs, h1, h2, h3, h4⟩ := h.at hj
  refine ⟨b, off, cs, h1, h4, fun H q K hq hK => ⟨⟨cs, h2, fun _ e i v hv => ?_, hK⟩⟩⟩
  subst hq
  have := e.oldCell (by simp) (h3 i v hv)
  rw [← Nat.add_assoc] at this
  exact this
set_option maxRecDepth 4000 in
set_option maxHeartbeats 8000000 in
theorem Same21_spec {w : World} {s : StateM} {a b c a' b' c' : Option Addr} {ca cb cc ca' cb' cc' : Nat} (hs : StateAt w s a b c ca cb cc) (ht : StateAt w s a' b' c' ca' cb' cc') :
    Cl Tryz.prog f_tarmacref21_Same [.agg ⟨stV s a b c ca cb cc⟩, .agg ⟨stV s a' b' c' ca' cb' cc'⟩] w fun v w' => v = .bool true ∧ St w [] [] w' := by
  have hS := St.start w
  have hb := hs.bulk
  have hg := sum_ge s.eqs
  unfold stV
  refine en_tarmacref21_Same rfl ?_
  refine jq ⟨?_⟩
  refine hS.al ?_
  intro b1 w1 _ hS
  (repeat (refine jt ⟨?_⟩; refine hS.st rfl rfl ?_; intro _ hS)); refine jt ⟨?_⟩
  refine hS.al ?_
  intro b2 w2 _ hS
  (repeat (refine jt ⟨?_⟩; refine hS.st rfl rfl ?_; intro _ hS)); refine jt ⟨?_⟩
  refine SemW.loop (fun k : Nat => [(2, ptr b1), (3, ptr b2), (35, .int .i64 s.eqs.length), (36, .int .i64 k)])
    (fun k w' => k ≤ s.eqs.length ∧ St w [] [(b2, .cells ⟨[.slice a' s.eqs.length ca', .slice b' s.fls.length cb', .slice c' s.pxs.length cc']⟩ T_api_State (0, 0)), (b1, .cells ⟨[.slice a s.eqs.length ca, .slice b s.fls.length cb, .slice c s.pxs.length cc]⟩ T_api_State (0, 0))] w') (fun k => s.eqs.length - k) 0
    ⟨rfl, rfl, rfl, rfl, trivial⟩ ⟨Nat.zero_le _, hS⟩ ?_
  clear hS
  rintro k w3 ⟨hk, hS⟩
  by_cases hkl : k < s.eqs.length
  · obtain ⟨g, off, cs1, hg1, hr1, hld1⟩ := RSl.cellC hs.eqs hkl
    obtain ⟨g', off', cs2, hg2, hr2, hld2⟩ := RSl.cellC ht.eqs hkl
    subst hg1
    subst hg2
    have hrw := sum_at s.eqs k hkl
    generalize s.eqs[k] = x at hr1 hr2 hrw
    have hrl := rowsW_len x.rows
    obtain ⟨v1, rfl, -, hv1⟩ := hr1
    obtain ⟨v2, rfl, -, hv2⟩ := hr2
    obtain ⟨ar, cr, rfl, -, -, hv1⟩ := hv1.inv
    obtain ⟨ar', cr', rfl, -, -, hv2⟩ := hv2.inv
    (repeat (refine jt ⟨?_⟩; refine hS.st rfl rfl ?_; intro _ hS)); refine jt ⟨?_⟩
    refine SemW.draw tblOk mixed (fun w' => St w [] [(b2, .cells ⟨[.slice (some ⟨g', off', none⟩) s.eqs.length ca', .slice b' s.fls.length cb', .slice c' s.pxs.length cc']⟩ T_api_State (0, 0)), (b1, .cells ⟨[.slice (some ⟨g, off, none⟩) s.eqs.length ca, .slice b s.fls.length cb, .slice c s.pxs.length cc]⟩ T_api_State (0, 0))] w') [26, 27, 28] [0, 1, 2, 3, 4, 5, 6, 7, 8, 9, 10, 11, 12, 13, 14, 15, 16, 17, 18, 19, 20, 21, 22, 23, 24, 25, 26, 27, 28] (by kernel_rfl) hS.drew ?_
    have hS := hS.drew
    refine jr ⟨?_⟩
    refine hld1 _ 0 _ _ _ rfl (by simp) ?_
    refine jr ⟨?_⟩
    refine hld2 _ 0 _ _ _ rfl (by simp) ?_
    refine jr ⟨?_⟩
    refine hld1 _ 1 _ _ _ rfl (by simp) ?_
    refine jr ⟨?_⟩
    refine hld2 _ 1 _ _ _ rfl (by simp) ?_
    refine jr ⟨?_⟩
    refine Cl.mono (sameRows_spec ((rsl_rows' hv1).keep hS.nil) ((rsl_rows' hv2).keep hS.nil) (by omega)) ?_
    rintro _ w4 ⟨rfl, hS'⟩
    have hS := hS.call0 hS'
    rw [decide_eq_true rfl]
    refine jr ⟨?_⟩
    exact ⟨k + 1, ⟨rfl, rfl, rfl, rfl, trivial⟩, ⟨by omega, hS⟩, by omega⟩
  · (repeat (refine jt ⟨?_⟩; refine hS.st rfl rfl ?_; intro _ hS)); refine jt ⟨?_⟩
    refine SemW.loop (fun k : Nat => [(2, ptr b1), (3, ptr b2), (71, .int .i64 s.fls.length), (72, .int .i64 k)])
      (fun k w' => k ≤ s.fls.length ∧ St w [] [(b2, .cells ⟨[.slice a' s.eqs.length ca', .slice b' s.fls.length cb', .slice c' s.pxs.length cc']⟩ T_api_State (0, 0)), (b1, .cells ⟨[.slice a s.eqs.length ca, .slice b s.fls.length cb, .slice c s.pxs.length cc]⟩ T_api_State (0, 0))] w') (fun k => s.fls.length - k) 0
      ⟨rfl, rfl, rfl, rfl, trivial⟩ ⟨Nat.zero_le _, hS⟩ ?_
    clear hS
    rintro k w3 ⟨hk, hS⟩
    by_cases hkl : k < s.fls.length
    · obtain ⟨g, off, cs1, hg1, hr1, hld1⟩ := RSl.ldnCH hs.fls hkl
      obtain ⟨g', off', cs2, hg2, hr2, hld2⟩ := RSl.ldnCH ht.fls hkl
      subst hg1
      subst hg2
      generalize s.fls[k] = x at hr1 hr2
      obtain ⟨rfl, -⟩ := hr1
      obtain ⟨rfl, -⟩ := hr2
      (repeat (refine jt ⟨?_⟩; refine hS.st rfl rfl ?_; intro _ hS)); refine jt ⟨?_⟩
      refine SemW.draw tblOk mixed (fun w' => St w [] [(b2, .cells ⟨[.slice a' s.eqs.length ca', .slice (some ⟨g', off', none⟩) s.fls.length cb', .slice c' s.pxs.length cc']⟩ T_api_State (0, 0)), (b1, .cells ⟨[.slice a s.eqs.length ca, .slice (some ⟨g, off, none⟩) s.fls.length cb, .slice c s.pxs.length cc]⟩ T_api_State (0, 0))] w') [] [0, 1, 2, 3, 4, 5, 6, 7, 8, 9, 10] (by kernel_rfl) hS.drew ?_
      have hS := hS.drew
      refine jr ⟨?_⟩
      refine hld1 _ _ _ (by simp) ?_
      refine jr ⟨?_⟩
      refine hld2 _ _ _ (by simp) ?_
      refine jr ⟨?_⟩
      refine neqAgg (n := 3) (by omega) (by kernel_rfl) (eqFl1 x) ?_
      refine jr ⟨?_⟩
      exact ⟨k + 1, ⟨rfl, rfl, rfl, rfl, trivial⟩, ⟨by omega, hS⟩, by omega⟩
    · (repeat (refine jt ⟨?_⟩; refine hS.st rfl rfl ?_; intro _ hS)); refine jt ⟨?_⟩
      refine SemW.loop (fun k : Nat => [(2, ptr b1), (3, ptr b2), (89, .int .i64 s.pxs.length), (90, .int .i64 k)])
        (fun k w' => k ≤ s.pxs.length ∧ St w [] [(b2, .cells ⟨[.slice a' s.eqs.length ca', .slice b' s.fls.length cb', .slice c' s.pxs.length cc']⟩ T_api_State (0, 0)), (b1, .cells ⟨[.slice a s.eqs.length ca, .slice b s.fls.length cb, .slice c s.pxs.length cc]⟩ T_api_State (0, 0))] w') (fun k => s.pxs.length - k) 0
        ⟨rfl, rfl, rfl, rfl, trivial⟩ ⟨Nat.zero_le _, hS⟩ ?_
      clear hS
      rintro k w3 ⟨hk, hS⟩
      by_cases hkl : k < s.pxs.length
      · obtain ⟨g, off, cs1, hg1, hr1, hld1⟩ := RSl.ldnCH hs.pxs hkl
        obtain ⟨g', off', cs2, hg2, hr2, hld2⟩ := RSl.ldnCH ht.pxs hkl
        subst hg1
        subst hg2
        generalize s.pxs[k] = x at hr1 hr2
        obtain ⟨rfl, -⟩ := hr1
        obtain ⟨rfl, -⟩ := hr2
        (repeat (refine jt ⟨?_⟩; refine hS.st rfl rfl ?_; intro _ hS)); refine jt ⟨?_⟩
        refine SemW.draw tblOk mixed (fun w' => St w [] [(b2, .cells ⟨[.slice a' s.eqs.length ca', .slice b' s.fls.length cb', .slice (some ⟨g', off', none⟩) s.pxs.length cc']⟩ T_api_State (0, 0)), (b1, .cells ⟨[.slice a s.eqs.length ca, .slice b s.fls.length cb, .slice (some ⟨g, off, none⟩) s.pxs.length cc]⟩ T_api_State (0, 0))] w') [] [0, 1, 2, 3, 4, 5, 6, 7, 8, 9, 10] (by kernel_rfl) hS.drew ?_
        have hS := hS.drew
        refine jr ⟨?_⟩
        refine hld1 _ _ _ (by simp) ?_
        refine jr ⟨?_⟩
        refine hld2 _ _ _ (by simp) ?_
        refine jr ⟨?_⟩
        refine neqAgg (n := 3) (by omega) (by kernel_rfl) (eqPax x x) ?_
        rw [decide_eq_true rfl]
        refine jr ⟨?_⟩
        exact ⟨k + 1, ⟨rfl, rfl, rfl, rfl, trivial⟩, ⟨by omega, hS⟩, by omega⟩
      · (repeat (refine jt ⟨?_⟩; refine hS.st rfl rfl ?_; intro _ hS)); refine jt ⟨?_⟩
        exact ⟨rfl, hS.nil⟩
theorem RSl.no {β : Type} (sz : Nat) (R : CellR β) (w : World) : RSl sz R w [.slice none 0 0] ([] : List β) := ⟨⟨none, 0, rfl, Nat.le_refl _, by decide, fun j h => by cases h⟩⟩
theorem eqOp (r q : RecM) : EqV 3 Tryz.prog T_api_Op (.agg ⟨opC r⟩) (.agg ⟨opC q⟩) (decide (r = q)) := by
  have h : EqV 3 Tryz.prog T_api_Op (.agg ⟨opC r⟩) (.agg ⟨opC q⟩) (decide (r.1 = q.1) && (decide (false = false) && (decide (r.2 = q.2) && true))) := by
    refine EqV.struct (d := [(T_string, 0), (T_bool, 1), (T_string, 2)]) (by kernel_rfl) (by kernel_rfl) (by kernel_rfl) ?_
    refine EqFs.cons (PartIs.one tblOk rfl rfl rfl) (PartIs.one tblOk rfl rfl rfl) (EqV.str tblOk rfl rfl _ _) ?_
    refine EqFs.cons (PartIs.one tblOk rfl rfl rfl) (PartIs.one tblOk rfl rfl rfl) (EqV.bool tblOk rfl rfl _ _) ?_
    exact EqFs.cons (PartIs.one tblOk rfl rfl rfl) (PartIs.one tblOk rfl rfl rfl) (EqV.str tblOk rfl rfl _ _) EqFs.nil
  have e : decide (r = q) = (decide (r.1 = q.1) && (decide (false = false) && (decide (r.2 = q.2) && true))) := by
    rw [Bool.eq_iff_iff]; simp [Prod.ext_iff]
  rw [e]; exact h
def f0 : FlightM := ⟨7, 1, 0, 0, 1, 2, 3, 4⟩
def s0 : StateM := ⟨[], [f0], []⟩
theorem f0_ok : f0.ok := by constructor <;> (unfold i64b f0; simp)
theorem s0_form : InForm s0 := ⟨(by intro p h; cases h), (by intro i h; simp [s0] at h), (by intro i h; simp [s0] at h), (by intro i h; simp [s0] at h)⟩
theorem rec0 : recs s0 = [([2, 102, 0, 0, 1, 128, 0, 0, 0, 0, 0, 0, 7], [2, 0, 0, 2, 4, 6, 8])] := by
  have e1 : keyB 102 7 = [2, 102, 0, 0, 1, 128, 0, 0, 0, 0, 0, 0, 7] := by decide
  have e2 : flightB f0 = [2, 0, 0, 2, 4, 6, 8] := by
    simp [flightB, f0, intsB, intB, zig, numB_lt]
  simp only [recs, s0, List.map_nil, List.map_cons, List.nil_append, List.append_nil, flRec, e2, List.cons.injEq, Prod.mk.injEq, and_true]
  exact e1
set_option maxHeartbeats 4000000 in
set_option maxRecDepth 8000 in
theorem rlives_spec {w : World} : Cl Tryz.prog f_tarmaclaw22_lives [] w fun v w' => v = .bool true ∧ St w [] [] w' := by
  have hS := St.start w
  refine en_tarmaclaw22_lives rfl ?_
  refine jq ⟨?_⟩
  refine hS.al ?_
  intro r w1 _ hS
  (repeat (refine jt ⟨?_⟩; refine hS.st rfl rfl ?_; intro _ hS)); refine jt ⟨?_⟩
  refine hS.al ?_
  intro b1 w2 _ hS
  (repeat (refine jt ⟨?_⟩; refine hS.st rfl rfl ?_; intro _ hS)); refine jt ⟨?_⟩
  rename_i w3
  have hs : StateAt w3 s0 none (some ⟨r, 0, none⟩) none 0 1 0 := by
    refine ⟨RSl.no _ _ _, ⟨⟨some ⟨r, 0, none⟩, 1, rfl, Nat.le_refl _, by decide, fun j hj => ?_⟩⟩, RSl.no _ _ _, by decide⟩
    have hj0 : j = 0 := by simp [s0] at hj; exact hj
    subst hj0
    refine ⟨r, 0, flC f0, rfl, rfl, fun i v hv => ?_, rfl, f0_ok⟩
    have := hS.cell (b := r) (off := i) hv
    simpa using this
  have hl : (recs s0).length = 1 := by rw [rec0]; rfl
  have hA := All_spec hs
  have e0 : stV s0 none (some ⟨r, 0, none⟩) none 0 1 0 = [.slice none 0 0, .slice (some ⟨r, 0, none⟩) 1 1, .slice none 0 0] := rfl
  rw [e0] at hA
  refine Cl.mono hA ?_
  rintro _ w4 (⟨hno, -⟩ | ⟨-, a', c', L, rfl, hv, hS'⟩)
  · exact absurd s0_form hno
  have hS := hS.callNew hS'
  rw [hl] at hv
  rw [rec0] at hv
  rw [hl]
  have ha := hv.arr hS (T' := []) (by simp)
  obtain ⟨g, off, rfl, -, -⟩ := ha.get (j := 0) (by simp [opC])
  (repeat (refine jt ⟨?_⟩; refine hS.st rfl rfl ?_; intro _ hS)); refine jt ⟨?_⟩
  refine Arr.ldn (St.start w4) ha rfl (k := 0) (l' := opC ([2, 102, 0, 0, 1, 128, 0, 0, 0, 0, 0, 0, 7], [2, 0, 0, 2, 4, 6, 8])) rfl rfl ?_
  unfold opC
  (repeat (refine jt ⟨?_⟩; refine hS.st rfl rfl ?_; intro _ hS)); refine jt ⟨?_⟩
  refine eqlAgg (n := 3) (by omega) (by kernel_rfl) (eqOp ([2, 102, 0, 0, 1, 128, 0, 0, 0, 0, 0, 0, 7], [2, 0, 0, 2, 4, 6, 8]) ([2, 102, 0, 0, 1, 128, 0, 0, 0, 0, 0, 0, 7], [2, 0, 0, 2, 4, 6, 8])) ?_
  rw [decide_eq_true rfl]
  (repeat (refine jt ⟨?_⟩; refine hS.st rfl rfl ?_; intro _ hS)); refine jt ⟨?_⟩
  exact ⟨rfl, hS.nil⟩
end Go.Proofs.YtinkmidjbdnibaaGreatDoor
namespace Go.Proofs.YtinkmidjbdnibaaGreatDoor
open Go Go.Eng Go.Proofs Go.Srt
def spareO : OpM := ([115, 112, 97, 114, 101], false, [])
theorem zeroAt (w : World) : StateAt w ⟨[], [], []⟩ none none none 0 0 0 := by
  refine ⟨?_, ?_, ?_, by decide⟩
  · exact arr_rsl (by omega) (cells := []) (Arr.nil _ _ _) (Nat.le_refl _) fun j hj => by simp at hj
  · exact arr_rsl (by omega) (cells := []) (Arr.nil _ _ _) (Nat.le_refl _) fun j hj => by simp at hj
  · exact arr_rsl (by omega) (cells := []) (Arr.nil _ _ _) (Nat.le_refl _) fun j hj => by simp at hj
set_option maxRecDepth 4000 in
set_option maxHeartbeats 8000000 in
theorem RowsLoad_spec {w : World} {a : Option Addr} {cap : Nat} {rs : List OpM} (ha : Arr w [] a (rs.flatMap opDC)) (hsz : ∀ o ∈ rs, o.1.length ≤ 1048576 ∧ o.2.2.length ≤ 100000000) (hW : opsW rs ≤ 1048576) (hl : 3 * rs.length ≤ 1048576) (hE : ErrVars w) :
    Cl Tryz.prog f_tarmaclaw22_RowsLoad [.slice a rs.length cap] w fun v w' => v = .bool true ∧ St w [] [] w' := by
  have hS := St.start w
  have hcr := opsC_len rs
  have hbk : ∀ s, OkS s → (opsOf s).Perm rs → bulkS s + 4 ≤ 8388608 := fun s _ hp => by
    have h1 := bulk_ops s
    rw [opsW_perm hp] at h1; omega
  refine en_tarmaclaw22_RowsLoad rfl ?_
  refine jq ⟨?_⟩
  refine Cl.mono rlives_spec ?_
  rintro _ w2 ⟨rfl, hS'⟩
  have hS := hS.call0 hS'
  (repeat (refine jt ⟨?_⟩; refine hS.st rfl rfl ?_; intro _ hS)); refine jt ⟨?_⟩
  refine hS.al ?_
  intro q0 w3 _ hS
  (repeat (refine jt ⟨?_⟩; refine hS.st rfl rfl ?_; intro _ hS)); refine jt ⟨?_⟩
  have hvq : Vec T_api_Op 3 (some ⟨q0, 0, none⟩) 0 0 [] [(q0, .cells ⟨[]⟩ T_api_Op (0, 0))] := Vec.row q0 0 0 [] [] rfl rfl (Nat.le_refl _)
  refine St.app (sz := 3) (m := rs.length) tblOk rfl rfl rfl rfl hS hvq (news := rs.flatMap opDC) (by rw [opsC_len]; omega) (hS.arrOld ha) (opsC_one _) (by show (_ + _) * 40 ≤ _; omega) (by omega) ?_
  intro a2 c2 L2 w4 hv hS
  rw [List.nil_append, Nat.zero_add] at hv
  rw [Nat.zero_add]
  (repeat (refine jt ⟨?_⟩; refine hS.st rfl rfl ?_; intro _ hS)); refine jt ⟨?_⟩
  refine hS.al ?_
  intro r w5 _ hS
  (repeat (refine jt ⟨?_⟩; refine hS.st rfl rfl ?_; intro _ hS)); refine jt ⟨?_⟩
  refine St.app (sz := 3) (m := 1) tblOk rfl rfl rfl rfl hS hv (news := opDC spareO) rfl (by have := hS.arr (b := r) (T' := []) (by simp); exact this) rfl (by show (_ + _) * 40 ≤ _; omega) (by omega) ?_
  intro a3 c3 L3 w6 hv hS
  have e9 : rs.flatMap opDC ++ opDC spareO = (rs ++ [spareO]).flatMap opDC := by simp
  have e8 : rs.length + 1 = (rs ++ [spareO]).length := by simp
  have hS : St w [] L3 _ := (hS.sub (List.sublist_cons_self _ _)).sub (by simp)
  rcases hv.inv with ⟨-, h0, -⟩ | ⟨g, tl, rfl, hxx, hl', hnc, rfl⟩
  · omega
  have hcell : ((rs ++ [spareO]).flatMap opDC)[rs.length * 3]? = some (Str [115, 112, 97, 114, 101]) := by
    have := opsC_key (rs ++ [spareO]) rs.length (by simp)
    rw [this]
    simp [spareO]
  (repeat (refine jt ⟨?_⟩; refine hS.st rfl rfl ?_; intro _ hS)); refine jt ⟨?_⟩
  refine Cl.mono (Load_spec (rs := rs) (Arr.take (hv.arr hS (by simp))) (by omega) hsz hbk (hE.keep hS (by simp) (by simp))) ?_
  rintro _ w7 (⟨s, sa, sb, sc, ka, kb, kc, La, Lr, Lb, Lc, rfl, hL, hO, hS'⟩ | ⟨rfl, hno, hS'⟩)
  · have hS := hS.callNew hS'
    unfold stV
    (repeat (refine jt ⟨?_⟩; refine hS.st rfl rfl ?_; intro _ hS)); refine jt ⟨?_⟩
    refine hS.al ?_
    intro b4 w8 _ hS
    (repeat (refine jt ⟨?_⟩; refine hS.st rfl rfl ?_; intro _ hS)); refine jt ⟨?_⟩
    refine Cl.mono (Load22_spec (rs := rs) (hS.nil.arrOld ha) (by omega) hsz hW (hE.keep hS (by simp) (by simp))) ?_
    rintro _ w9 (⟨s', sa', sb', sc', ka', kb', kc', La', Lr', Lb', Lc', rfl, hL', hO', hS'⟩ | ⟨-, hno, -⟩)
    rotate_left
    · exact absurd hL (hno s)
    have hss : s = s' := loads_one hL hL'
    have hbs := hbk s hL.1 hL.2.2
    subst hss
    have hS := hS.callNew hS'
    unfold stV
    (repeat (refine jt ⟨?_⟩; refine hS.st rfl rfl ?_; intro _ hS)); refine jt ⟨?_⟩
    refine hS.al ?_
    intro b6 w10 _ hS
    (repeat (refine jt ⟨?_⟩; refine hS.st rfl rfl ?_; intro _ hS)); refine jt ⟨?_⟩
    refine Cl.mono (Same21_spec (hO.at (hS.sub ((((List.sublist_append_left _ _).trans (List.sublist_cons_self _ _)).trans (List.sublist_append_right _ _)).trans (List.sublist_cons_self _ _))) hL.1 hbs) (hO'.at (hS.sub ((List.sublist_append_left _ _).trans (List.sublist_cons_self _ _))) hL.1 hbs)) ?_
    rintro _ w11 ⟨rfl, hS'⟩
    have hS := hS.call0 hS'
    (repeat (refine jt ⟨?_⟩; refine hS.st rfl rfl ?_; intro _ hS)); refine jt ⟨?_⟩
    refine Cl.mono (Same22_spec (l := rs) (m := rs) (Arr.take (hv.arr hS (by simp))) (hS.nil.arrOld ha) (by omega) (by omega)) ?_
    rintro _ w12 ⟨rfl, hS'⟩
    have hS := hS.call0 hS'
    have hrr : decide (rs = rs) = true := decide_eq_true rfl
    rw [hrr]
    (repeat (refine jt ⟨?_⟩; refine hS.st rfl rfl ?_; intro _ hS)); refine jt ⟨?_⟩
    refine Arr.ldc (St.start _) (hv.arr hS (by simp)) (j := rs.length * 3) (by rw [e9]; exact hcell) (by simp) ?_
    (repeat (refine jt ⟨?_⟩; refine hS.st rfl rfl ?_; intro _ hS)); refine jt ⟨?_⟩
    exact ⟨rfl, hS.nil⟩
  · have hS := hS.callNew hS'
    (repeat (refine jt ⟨?_⟩; refine hS.st rfl rfl ?_; intro _ hS)); refine jt ⟨?_⟩
    refine hS.al ?_
    intro b4 w8 _ hS
    (repeat (refine jt ⟨?_⟩; refine hS.st rfl rfl ?_; intro _ hS)); refine jt ⟨?_⟩
    refine Cl.mono (Load22_spec (rs := rs) (hS.nil.arrOld ha) (by omega) hsz hW (hE.keep hS (by simp) (by simp))) ?_
    rintro _ w9 (⟨s', sa', sb', sc', ka', kb', kc', La', Lr', Lb', Lc', -, hL', -⟩ | ⟨rfl, -, hS'⟩)
    · exact absurd hL' (hno s')
    have hS := hS.callNew hS'
    (repeat (refine jt ⟨?_⟩; refine hS.st rfl rfl ?_; intro _ hS)); refine jt ⟨?_⟩
    refine hS.al ?_
    intro b6 w10 _ hS
    (repeat (refine jt ⟨?_⟩; refine hS.st rfl rfl ?_; intro _ hS)); refine jt ⟨?_⟩
    refine Cl.mono (Same21_spec (zeroAt _) (zeroAt _)) ?_
    rintro _ w11 ⟨rfl, hS'⟩
    have hS := hS.call0 hS'
    (repeat (refine jt ⟨?_⟩; refine hS.st rfl rfl ?_; intro _ hS)); refine jt ⟨?_⟩
    refine Cl.mono (Same22_spec (l := rs) (m := rs) (Arr.take (hv.arr hS (by simp))) (hS.nil.arrOld ha) (by omega) (by omega)) ?_
    rintro _ w12 ⟨rfl, hS'⟩
    have hS := hS.call0 hS'
    have hrr : decide (rs = rs) = true := decide_eq_true rfl
    rw [hrr]
    (repeat (refine jt ⟨?_⟩; refine hS.st rfl rfl ?_; intro _ hS)); refine jt ⟨?_⟩
    refine Arr.ldc (St.start _) (hv.arr hS (by simp)) (j := rs.length * 3) (by rw [e9]; exact hcell) (by simp) ?_
    (repeat (refine jt ⟨?_⟩; refine hS.st rfl rfl ?_; intro _ hS)); refine jt ⟨?_⟩
    exact ⟨rfl, hS.nil⟩
end Go.Proofs.YtinkmidjbdnibaaGreatDoor
namespace Go.Proofs.YtinkmidjbdnibaaGreatDoor
open Go Go.Eng Go.Proofs Go.RowKit
theorem errStar : "*" ++ "errors.errorString" = "*errors.errorString" := by decide
theorem errRow (u : TypeId) (h : Tryz.prog.typeName? 3 u = some "*errors.errorString") : u = 200 :=
  typeName_ptr_named (nm := "errors.errorString") (by rw [errStar]; kernel_rfl) (by kernel_rfl) (by decide) u (by rw [errStar]; exact h)
theorem errVars_of {r : List (String × DataW Unit)} {W : World} (h : laidMet Tryz.prog (("strconv.ErrRange", Rows.laid_strconv_ErrRange) :: ("strconv.ErrSyntax", Rows.laid_strconv_ErrSyntax) :: r) W) : ErrVars W := by
  obtain ⟨f, hf, hft, hfo⟩ : ∃ f : Field, Tryz.prog.underlying 202 = some (.struct #[f]) ∧ f.type = 9 ∧ f.offset = 0 := ⟨⟨"s", 9, 0, false, "", "errors", 0⟩, by kernel_rfl, rfl, rfl⟩
  have hi : Tryz.prog.underlying 158 = some (.interface (Tryz.prog.methodsAt 158)) := by kernel_rfl
  have g1 : Tryz.prog.globalNamed "strconv.ErrRange" = some errG1 := by kernel_rfl
  have g0 : Tryz.prog.globalNamed "strconv.ErrSyntax" = some errG0 := by kernel_rfl
  obtain ⟨a1, s1, hv1, -, -, -⟩ := laid_sentinel h g1 (ti := 158) (by kernel_rfl) hi errRow (te := 202) (by kernel_rfl) hf hft hfo (by kernel_rfl) (by kernel_rfl) (by kernel_rfl)
  obtain ⟨a0, s0, hv0, -, -, -⟩ := laid_sentinel h.tail g0 (ti := 158) (by kernel_rfl) hi errRow (te := 202) (by kernel_rfl) hf hft hfo (by kernel_rfl) (by kernel_rfl) (by kernel_rfl)
  exact ⟨⟨_, _, by have h0 := World.var?_cell g0 hv0 0; simpa using h0⟩, ⟨_, _, by have h0 := World.var?_cell g1 hv1 0; simpa using h0⟩⟩
end Go.Proofs.YtinkmidjbdnibaaGreatDoor
namespace Go.Proofs.YtinkmidjbdnibaaGreatDoor
open Go Go.Eng Go.Proofs Go.Srt
open Go.ChangeShapes Go.WideShapes Go.ChangeAt Go.RowKit
theorem RSl.arrO {β : Type} {sz : Nat} {R : CellR β} {W : World} {a : Option Addr} {n cap : Nat} {xs : List β} {cv : β → List Value} (h : RSl sz R W [.slice a n cap] xs) (hR : ∀ cs x, R W cs x → cs = cv x) (hc : ∀ x, (cv x).length = sz) (h0 : 0 < sz) : Arr W [] a (xs.flatMap cv) := by
  intro j v hj
  have hjl : j < xs.length * sz := by
    have := (List.getElem?_eq_some_iff.1 hj).1
    rwa [flat_lenE hc] at this
  have hi : j / sz < xs.length := Nat.div_lt_of_lt_mul (by rw [Nat.mul_comm]; exact hjl)
  obtain ⟨b, off, cs, h1, h2, h3, h4⟩ := h.at hi
  have hcs := hR _ _ h4
  have hat := flat_atE hc xs [] (j / sz) hi
  rw [List.append_nil, ← hcs] at hat
  refine ⟨b, off, h1, by simp, ?_⟩
  have hr : j % sz < sz := Nat.mod_lt _ h0
  have hdm : j / sz * sz + j % sz = j := by rw [Nat.mul_comm]; exact Nat.div_add_mod j sz
  have hv : cs[j % sz]? = some v := by
    rw [← hat, List.getElem?_take, if_pos hr, List.getElem?_drop, hdm]; exact hj
  have := h3 _ _ hv
  rw [hdm] at this
  exact this
def ROp : CellR OpM := fun _ cs o => cs = opDC o
def opB (o : OpM) : Nat := o.1.length + o.2.2.length + 4
theorem opens_op : Opens Tryz.prog T_api_Op ROp opB := by
  refine Opens.map (Opens.struct (sz := 3) Tryz.underlying25 (by kernel_rfl) (OpensFs.cons (s := 1) rfl (by kernel_rfl) (Opens.str Tryz.underlying9) (OpensFs.cons (s := 1) rfl (by kernel_rfl) (Opens.bool Tryz.underlying4) (OpensFs.cons (s := 1) rfl (by kernel_rfl) (Opens.str Tryz.underlying9) OpensFs.nil))))
    (fun x => (x.1, x.2.1, x.2.2.1)) ?_ (fun x => by unfold opB; (try simp only); omega)
  intro W cs x h
  obtain ⟨e1, h⟩ := pair_str h
  obtain ⟨e2, h⟩ := pair_bool h
  obtain ⟨e3, h⟩ := pair_str h
  have h : (((cs.drop 1).drop 1).drop 1) = [] := h
  rw [h] at e3; rw [e3] at e2; rw [e2] at e1
  exact e1
theorem opens_ops : Opens Tryz.prog T_Sl_api_Op (RSl 3 ROp) (fun xs => (xs.map opB).sum + 1) :=
  Opens.slice Tryz.underlying22 (show Tryz.prog.cellsOf T_api_Op = 3 by kernel_rfl) (by decide) opens_op
theorem opB_sum (rs : List OpM) : opsW rs ≤ (rs.map opB).sum ∧ 3 * rs.length ≤ opsW rs ∧ ∀ o ∈ rs, o.1.length ≤ opsW rs ∧ o.2.2.length ≤ opsW rs := by
  induction rs with
  | nil => exact ⟨Nat.le_refl _, Nat.le_refl _, by nofun⟩
  | cons o rs ih =>
    obtain ⟨h1, h2, h3⟩ := ih
    have e : opsW (o :: rs) = o.1.length + o.2.2.length + 3 + opsW rs := by unfold opsW; rw [List.map_cons, List.sum_cons]; rfl
    have e2 : ((o :: rs).map opB).sum = o.1.length + o.2.2.length + 4 + (rs.map opB).sum := by rw [List.map_cons, List.sum_cons]; rfl
    refine ⟨by omega, by rw [List.length_cons]; omega, fun x hx => ?_⟩
    rcases List.mem_cons.1 hx with rfl | hx
    · omega
    · have := h3 x hx; omega
theorem RowsLoad_specA {w : World} {a : Option Addr} {cap : Nat} {rs : List OpM} (hR : RSl 3 ROp w [.slice a rs.length cap] rs) (hB : (rs.map opB).sum + 1 ≤ 1048576) (hE : ErrVars w) :
    Cl Tryz.prog f_tarmaclaw22_RowsLoad [.slice a rs.length cap] w fun v w' => v = .bool true ∧ St w [] [] w' := by
  obtain ⟨h1, h2, h3⟩ := opB_sum rs
  refine RowsLoad_spec (hR.arrO (cv := opDC) (fun _ _ h => h) (fun _ => rfl) (by omega)) (fun o ho => ?_) (by omega) (by omega) hE
  have := h3 o ho
  omega
end Go.Proofs.YtinkmidjbdnibaaGreatDoor
