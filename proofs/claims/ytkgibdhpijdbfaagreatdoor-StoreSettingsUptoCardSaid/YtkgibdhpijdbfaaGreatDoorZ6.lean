/- Texts of this claim, one behind the other. -/
import Derived.Test.YtkgibdhpijdbfaaGreatDoorZ5
import Derived.Test.YtkgibdhpijdbfaaGreatDoorZ4
import Derived.Test.YtkgibdhpijdbfaaGreatDoorZ1
import Derived.Test.YtkgibdhpijdbfaaGreatDoorZ0
import Derived.Test.YtkgibdhpijdbfaaGreatDoorZ2
set_option linter.unusedVariables false
set_option linter.unusedSimpArgs false
namespace Go.Proofs.YtkgibdhpijdbfaaGreatDoor
open Go Go.Eng Go.Proofs Go.Srt
theorem editIn (p : Nat × Obj) (X Y : Heap) : (p :: (X ++ Y)).Perm (X ++ (p :: Y)) := kBg.symm
theorem memIn (p q r : Nat × Obj) (N H A B C M Z : Heap) : (N ++ (p :: q :: r :: (H ++ (A ++ (B ++ (C ++ (M ++ Z))))))).Perm (p :: q :: r :: (H ++ (A ++ (B ++ (C ++ (N ++ (M ++ Z))))))) := by
 classical
 refine kDf.2 fun a => ?_
 simp only [kCl, kDa, List.count_nil]
 omega
theorem logIn (x p q r : Nat × Obj) (H A B Z : Heap) : (x :: p :: q :: r :: (H ++ (A ++ (B ++ Z)))).Perm (p :: q :: r :: (H ++ (A ++ (B ++ ([x] ++ Z))))) := by
 classical
 refine kDf.2 fun a => ?_
 simp only [kCl, kDa, List.count_nil]
 omega
set_option maxRecDepth 8000 in
set_option maxHeartbeats 16000000 in
theorem Sflush_spec {w : World} {sb f A T : Nat} {s : StM} {m : FSm} {L : Heap} (hO : StO sb f s m L) (hh : Holds L w) (hG : Glob w (keys L)) (hW : SWr A T s m) :
  Cl Tryz.prog f_store_Store_flush [ptr sb] w fun v w' => ∃ mk, mk.Perm (numsFrom s.v.next (pieces 64 s.mem)) ∧ v = .int .i64 (flushM s m mk).1 ∧ ∃ L', StO sb f (flushM s m mk).2.1 (flushM s m mk).2.2 L' ∧ St w (keys L) L' w' := by
 have hS := St.enter hh
 have hnum := hW.mem.num
 have hvn := hW.gv.good.nn
 have hvx := hW.next
 have hsq := hW.seq
 have hwl := hW.gv.wal
 have hac := hW.acts
 have hcnt := pieces_cnt 64 s.mem (by omega)
 have hlw := itoa_short (n := s.v.wal) ⟨by omega, by omega⟩
 generalize hT : keys L = T0 at hS hG ⊢
 refine en_store_Store_flush rfl ?_
 obtain ⟨mb, Lm0, hM0, hcm, hcl⟩ := hO.memP
 (repeat (refine jt ⟨?_⟩; refine hS.st rfl rfl ?_; intro _ hS)); refine jt ⟨?_⟩
 refine ldAt (hcm _ hS.holds).1 ?_
 (repeat (refine jt ⟨?_⟩; refine hS.st rfl rfl ?_; intro _ hS)); refine jt ⟨?_⟩
 refine Cl.mono (MLen_spec hM0 (hcm _ hS.holds).2) ?_
 rintro _ w1 ⟨rfl, hS'⟩
 have hS := hS.call (L := L) (hcl _ _ hS.holds hS')
 by_cases hm0 : s.mem = []
 ·have hl0 : s.mem.length = 0 := by rw [hm0]; rfl
  have hM : ∀ mk, flushM s m mk = (0, s, m) := fun mk => by unfold flushM; rw [if_pos hm0]
  (repeat (refine jt ⟨?_⟩; refine hS.st rfl rfl ?_; intro _ hS)); refine jt ⟨?_⟩
  exact ⟨_, .refl _, by rw [hM], L, by rw [hM]; exact hO, hS⟩
 ·have hl0 : 0 < s.mem.length := List.length_pos_iff.2 hm0
  have hFM : ∀ mk, flushM s m mk = _ := fun mk => by unfold flushM; rw [if_neg hm0]
  simp only at hFM
  (repeat (refine jt ⟨?_⟩; refine hS.st rfl rfl ?_; intro _ hS)); refine jt ⟨?_⟩
  refine SemW.draw tblOk mixed (fun w' => St w T0 L w') [11, 12, 13, 14, 15, 16, 17, 18] [0, 1, 2, 3, 4, 5, 6, 7, 8, 9, 10, 11, 12, 13, 14, 15, 16, 17, 18] (by kernel_rfl) hS.drew ?_
  have hS := hS.drew
  refine jr ⟨?_⟩
  refine ldAll (fun w' h => hO.nextC h.holds) ?_
  refine jr ⟨?_⟩
  refine ldAll (fun w' h => (hcm w' h.holds).1) ?_
  refine jr ⟨?_⟩
  refine Cl.mono (MAll_spec hM0 (hcm _ hS.holds).2 (by omega)) ?_
  rintro _ w2 ⟨a1, c1, L2, rfl, hv1, hS'⟩
  have hS := hS.callNew hS'
  refine Chk.mk (hS.sub (kAj _ _)) ?_
  refine jr ⟨?_⟩
  have hG1 : Glob _ (keys L) := (hG.step hS).sub fun b hb => by unfold keys at hb ⊢; rw [kAi]; exact kBp _ hb
  refine Cl.mono (hO.lay (hS.part (L := L)) hG1 0 s.v.next (by omega) (hv1.arr hS (T' := keys L) hS.disj) hv1.cap (by omega) hW.mem.tab hW.ft.fb (by omega)) ?_
  have hF1 := hW.ft.lay (T := T) ⟨by have := hW.lo; omega, by have := hW.hi; omega⟩ (pieces 64 s.mem) s.v.next hW.mem.tab
  rintro _ w3 (⟨h1, rfl, L3, hO3, hS'⟩ | ⟨h1, a2, c2, Lf, tm, et, ct, ks, Lt, L3, rfl, hvf, hmc, hto, hO3, hS'⟩)
  ·have hS := (hS.call (L := L) hS').sub (kAj _ _)
   have hM : ∀ mk, flushM s m mk = _ := fun mk => (hFM mk).trans (if_pos h1)
   generalize layM m s.v.next (pieces 64 s.mem) = ly at h1 hO3 hM ⊢
   (repeat (refine jt ⟨?_⟩; refine hS.st rfl rfl ?_; intro _ hS)); refine jt ⟨?_⟩
   exact ⟨_, .refl _, by rw [hM], L3, by rw [hM]; exact hO3, hS⟩
  ·have hS := (hS.call (L := L) hS').sub (kAj _ _)
   have hM : ∀ mk, flushM s m mk = _ := fun mk => (hFM mk).trans (if_neg (fun h => h h1))
   clear hFM
   generalize layM m s.v.next (pieces 64 s.mem) = ly at h1 hO3 hM hF1 ⊢
   obtain ⟨e1, m1⟩ := ly
   simp only at h1 hO3 hM hF1
   subst h1
   have hfl := filesOf_len 0 (numsFrom s.v.next (pieces 64 s.mem))
   rw [numsFrom_len] at hfl
   simp only [← hfl] at hM
   have hfo := filesOf_mem 0 (pieces 64 s.mem) s.v.next
   generalize hmd : numsFrom s.v.next (pieces 64 s.mem) = made at hvf hto hM hfl hfo ⊢
   generalize hfs : filesOf 0 made = fs at hvf hM hfl hfo ⊢
   (repeat (refine jt ⟨?_⟩; refine hS.st rfl rfl ?_; intro _ hS)); refine jt ⟨?_⟩
   refine SemW.draw tblOk mixed (fun w' => St w T0 ((tm, .map et ct) :: (Lf ++ (Lt ++ L3))) w') [] [0, 1, 2, 3, 4, 5, 6, 7, 8, 9, 10, 11, 12, 13, 14] (by kernel_rfl) hS.drew ?_
   have hS := hS.drew
   refine jr ⟨?_⟩
   refine ldAll (fun w' h => hO3.walC (h.part (L := L3))) ?_
   refine jr ⟨?_⟩
   refine ldAll (fun w' h => hO3.nextC (h.part (L := L3))) ?_
   refine jr ⟨?_⟩
   refine ldAt (hO3.seqC (hS.part (L := L3))) ?_
   (repeat (refine jt ⟨?_⟩; refine hS.st rfl rfl ?_; intro _ hS)); refine jt ⟨?_⟩
   have hS := St.perm hS (editIn _ Lf _)
   obtain ⟨g, hg, hgn⟩ := hW.list
   have hfc : fs.length ≤ 4194304 := by omega
   have hvn2 := hW.vnum
   have hTl := hW.lo
   have hTh := hW.hi
   have hef := edit_fine hW.gv (e := ⟨fs, [], s.v.next + fs.length, s.v.next + fs.length + 1, s.seq⟩) (by show s.v.files.length + fs.length ≤ _; omega) (by show s.v.next + (fs.length : Int) ≤ _; omega) (by show s.v.next + (fs.length : Int) + 1 ≤ _; omega) (by show s.seq ≤ _; omega)
   have hok : OkE ⟨fs, [], s.v.next + fs.length, s.v.next + fs.length + 1, s.seq⟩ := ⟨fun f hf => by
    have := hfo f hf
    exact ⟨i64ok_of (by omega), i64ok_of (by omega)⟩, fun n hn => (by cases hn), i64ok_of (by show 0 ≤ s.v.next + (fs.length : Int) ∧ s.v.next + (fs.length : Int) ≤ _; omega), i64ok_of (by show 0 ≤ s.v.next + (fs.length : Int) + 1 ∧ s.v.next + (fs.length : Int) + 1 ≤ _; omega), i64ok_of (by show 0 ≤ s.seq ∧ s.seq ≤ _; omega)⟩
   have hG2 : Glob _ (keys ((tm, .map et ct) :: (Lt ++ L3))) := (hG.step hS).sub fun b hb => by unfold keys at hb ⊢; rw [kAi]; exact kBp _ hb
   refine Cl.mono (Sedit_spec (e := ⟨fs, [], s.v.next + fs.length, s.v.next + fs.length + 1, s.seq⟩) (y := none) (cy := 0) hO3 hmc hto (hS.part (L := (tm, .map et ct) :: (Lt ++ L3))) hG2 (hvf.arr hS (T' := keys ((tm, .map et ct) :: (Lt ++ L3))) hS.disj) hvf.cap (Arr.nil _ _ _) (kAd _) (by show fs.length + 0 ≤ _; omega)
    (by show -9223372036854775808 ≤ s.v.next + (fs.length : Int) ∧ s.v.next + (fs.length : Int) ≤ _ ∧ _ ≤ s.v.next + (fs.length : Int) + 1 ∧ s.v.next + (fs.length : Int) + 1 ≤ _ ∧ _ ≤ s.seq ∧ s.seq ≤ _; omega) hok
    (fun nx hnx => by
     obtain ⟨h1, h2⟩ := hef nx hnx
     obtain ⟨h3, h4, h5, h6⟩ := h1.next_fine h2
     exact ⟨h3, h4, by omega, h6⟩) hg (by omega) (by show s.v.files.length + fs.length ≤ _; omega) hF1.fb (by omega)) ?_
   rintro _ w4 ⟨mk, hmk, rfl, L4, hO4, hS'⟩
   have hS := (hS.call (L := (tm, .map et ct) :: (Lt ++ L3)) hS').sub (kAj _ _)
   have hF2 := hF1.edit s ⟨fs, [], s.v.next + fs.length, s.v.next + fs.length + 1, s.seq⟩ mk (fun nx hnx => by
     obtain ⟨h1, h2⟩ := hef nx hnx
     obtain ⟨h3, h4, h5, h6⟩ := h1.next_fine h2
     have := (names_len (n := nx.next) ⟨by omega, by omega⟩).2.2
     exact ⟨by rw [sealB_len]; omega, by omega⟩) (by omega)
   have hM := hM mk
   obtain ⟨l5, v5, t5, hfst⟩ := editM_fst s m1 ⟨fs, [], s.v.next + fs.length, s.v.next + fs.length + 1, s.seq⟩ mk
   generalize editM s m1 ⟨fs, [], s.v.next + fs.length, s.v.next + fs.length + 1, s.seq⟩ mk = q at hO4 hM hF2 hfst ⊢
   obtain ⟨e2, s2, m2⟩ := q
   simp only at hO4 hM hF2 hfst ⊢
   by_cases he2 : e2 = 0
   ·subst he2
    rw [if_neg (by simp)] at hM
    have hhl : s2.hts.length ≤ 1099511627776 := by rw [hfst]; exact hW.hts
    have hnm := names_len (n := s.v.next + fs.length) ⟨by omega, by omega⟩
    obtain ⟨sq, es, c, hsq2, ha, hc, Lh, hvh, a3, c3, La, hv3, lv, Ll, hl3, gv, Lg, hg3, mb2, Lm, hm, tm2, et2, ct2, ks2, ht, Lt2, hts, LF, hF⟩ := hO4
    (repeat (refine jt ⟨?_⟩; refine hS.st rfl rfl ?_; intro _ hS)); refine jt ⟨?_⟩
    refine Cl.mono (MNew_spec (hvh.arr hS (by simp)) hhl) ?_
    rintro _ w5 ⟨mb3, Lm3, rfl, hm3, hS'⟩
    have hS := hS.callNew hS'
    (repeat (refine jt ⟨?_⟩; refine hS.st rfl rfl ?_; intro _ hS)); refine jt ⟨?_⟩
    have hS := (St.perm hS (memIn _ _ _ Lm3 Lh La Ll Lg Lm _)).sub (.cons_cons _ (.cons_cons _ (.cons_cons _ ((List.Sublist.refl Lh).append ((List.Sublist.refl La).append ((List.Sublist.refl Ll).append ((List.Sublist.refl Lg).append ((List.Sublist.refl Lm3).append (kAj Lm _)))))))))
    have hO5 := StO.mk (sb := sb) (s := { s2 with mem := [], adds := 0 }) (m := m2) sq es c hsq2 ha hc Lh hvh a3 c3 La hv3 lv Ll hl3 gv Lg hg3 mb3 Lm3 hm3 tm2 et2 ct2 ks2 ht Lt2 hts LF hF
    have hex : ∃ L5, StO sb f { s2 with mem := [], adds := 0 } m2 L5 ∧ St w T0 L5 _ := ⟨_, hO5, hS⟩
    clear hO5 hS hS'
    obtain ⟨L5, hO5, hS⟩ := hex
    refine SemW.draw tblOk mixed (fun w' => w'.cell? ⟨sb, 2, none⟩ = some (ptr f)) [] [0, 1, 2, 3, 4, 5, 6, 7, 8, 9, 10, 11, 12, 13, 14, 15] (by kernel_rfl) (hO5.fC hS.drew.holds) ?_
    have hS := hS.drew
    refine jr ⟨?_⟩
    refine ldAll (fun w' h => h) ?_
    refine jr ⟨?_⟩
    refine Cl.mono (Log_spec (n := s.v.next + fs.length) ⟨by omega, by omega⟩ (hG.keep hS).tab) ?_
    rintro _ w6 ⟨rfl, hS'⟩
    have hS := hS.call0 hS'
    refine Chk.mk (hO5.fC hS.holds) ?_
    refine jr ⟨?_⟩
    by_cases h4 : openE m2 (wName (s.v.next + fs.length)) = 0
    ·rw [h4, if_neg (by simp)] at hM
     refine Cl.mono (hO5.wopen hS.holds (wName (s.v.next + fs.length)) h4 hF2.fb) ?_
     rintro _ w7 ⟨bl, ax, cx, Lx, rfl, hvx, hlg, hS'⟩
     have hS := (hS.call (L := L5) hS').sub (kAj _ _)
     refine Chk.mk (hO5.fC (hS.part (L := L5))) ?_
     obtain ⟨sq, es, c, hsq2, ha, hc, Lh, hvh, a3, c3, La, hv3, lv, Ll, hl3, gv, Lg, hg3, mb2, Lm, hm, tm2, et2, ct2, ks2, ht, Lt2, hts, LF, hF⟩ := hO5
     refine jr ⟨?_⟩
     refine hS.st rfl rfl ?_
     intro w8 hS
     refine Chk.mk (hS.cell (b := sb) (off := 2) rfl) ?_
     have hS := (St.perm hS (logIn _ _ _ _ Lh La Ll _)).sub (.cons_cons _ (.cons_cons _ (.cons_cons _ ((List.Sublist.refl Lh).append ((List.Sublist.refl La).append ((List.Sublist.refl Ll).append ((List.Sublist.refl _).append (kAj Lg _))))))))
     have hO6 := StO.mk (sb := sb) (s := { s2 with mem := [], adds := 0, log := some (openL m2 (wName (s.v.next + fs.length))) }) (m := m2) sq es c hsq2 ha hc Lh hvh a3 c3 La hv3 lv Ll hl3 (ptr bl) _ hlg mb2 Lm hm tm2 et2 ct2 ks2 ht Lt2 hts LF hF
     have hex : ∃ L6, StO sb f { s2 with mem := [], adds := 0, log := some (openL m2 (wName (s.v.next + fs.length))) } m2 L6 ∧ St w T0 L6 w8 := ⟨_, hO6, hS⟩
     clear hO6 hS hS'
     obtain ⟨L6, hO6, hS⟩ := hex
     refine jr ⟨?_⟩
     refine SemW.draw tblOk mixed (fun w' => St w T0 L6 w') [6, 7] [0, 1, 2, 3, 4, 5, 6, 7] (by kernel_rfl) hS.drew ?_
     have hS := hS.drew
     refine jr ⟨?_⟩
     refine ldAll (fun w' h => hO6.fC h.holds) ?_
     refine jr ⟨?_⟩
     refine Cl.mono (Log_spec (n := s.v.wal) ⟨by omega, by omega⟩ (hG.keep hS).tab) ?_
     rintro _ w9 ⟨rfl, hS'⟩
     have hS := hS.call0 hS'
     refine Chk.mk hS ?_
     refine jr ⟨?_⟩
     refine Cl.mono (hO6.delete hS.holds (wName s.v.wal) hF2.fb (by omega)) ?_
     rintro _ w10 ⟨rfl, L7, hO7, hS'⟩
     have hS := hS.call (L := L6) hS'
     generalize deleteM m2 (wName s.v.wal) = dm at hO7 hM ⊢
     obtain ⟨e7, m7⟩ := dm
     simp only at hO7 hM ⊢
     by_cases hb0 : e7 = 0
     ·subst hb0
      (repeat (refine jt ⟨?_⟩; refine hS.st rfl rfl ?_; intro _ hS)); refine jt ⟨?_⟩
      exact ⟨mk, hmk, by rw [hM]; rfl, L7, by rw [hM]; exact hO7, hS⟩
     ·by_cases hb5 : e7 = 5
      ·subst hb5
       (repeat (refine jt ⟨?_⟩; refine hS.st rfl rfl ?_; intro _ hS)); refine jt ⟨?_⟩
       exact ⟨mk, hmk, by rw [hM]; rfl, L7, by rw [hM]; exact hO7, hS⟩
      ·rw [if_pos ⟨hb0, hb5⟩] at hM
       (repeat (refine jt ⟨?_⟩; refine hS.st rfl rfl ?_; intro _ hS)); refine jt ⟨?_⟩
       exact ⟨mk, hmk, by rw [hM], L7, by rw [hM]; exact hO7, hS⟩
    ·rw [if_pos h4] at hM
     refine Cl.mono (hO5.wopenE hS.holds (wName (s.v.next + fs.length)) h4) ?_
     rintro _ w7 ⟨rfl, hS'⟩
     have hS := hS.call (L := L5) hS'
     refine Chk.mk (hO5.fC hS.holds) ?_
     obtain ⟨sq, es, c, hsq2, ha, hc, Lh, hvh, a3, c3, La, hv3, lv, Ll, hl3, gv, Lg, hg3, mb2, Lm, hm, tm2, et2, ct2, ks2, ht, Lt2, hts, LF, hF⟩ := hO5
     refine jr ⟨?_⟩
     refine hS.st rfl rfl ?_
     intro w8 hS
     refine Chk.mk (hS.cell (b := sb) (off := 2) rfl) ?_
     generalize openE m2 (wName (s.v.next + fs.length)) = e9 at h4 hM ⊢
     refine jr ⟨?_⟩
     refine ⟨mk, hmk, by rw [hM], _, by
      rw [hM]
      exact StO.mk (sb := sb) (s := { s2 with mem := [], adds := 0, log := none }) (m := m2) sq es c hsq2 ha hc Lh hvh a3 c3 La hv3 lv Ll hl3 (.pointer none) [] LogP.none mb2 Lm hm tm2 et2 ct2 ks2 ht Lt2 hts LF hF, ?_⟩
     exact hS.sub (.cons_cons _ (.cons_cons _ (.cons_cons _ ((List.Sublist.refl Lh).append ((List.Sublist.refl La).append ((List.Sublist.refl Ll).append (kAj Lg _)))))))
   ·rw [if_pos he2] at hM
    (repeat (refine jt ⟨?_⟩; refine hS.st rfl rfl ?_; intro _ hS)); refine jt ⟨?_⟩
    exact ⟨mk, hmk, by rw [hM], L4, by rw [hM]; exact hO4, hS⟩
end Go.Proofs.YtkgibdhpijdbfaaGreatDoor
namespace Go.Proofs.YtkgibdhpijdbfaaGreatDoor
open Go Go.Eng Go.Proofs
theorem _root_.Go.Eng.St.rangeO {P : Program} {T0 : Tbl} (hT : TOk P T0) {t kt et : TypeId} {i : TI} (hi : tf T0 t = some i) (hk : i.k = .map kt et) {w0 w : World} {T : List Nat} {H : Heap} {m : Nat} {es : Array MapEntry} {c : Nat} (hS : St w0 T H w) (hm : w.heap[m]? = some (.map es c))
  {K : Value → World → Prop} (h : ∀ it w', w0.heap.size ≤ it → St w0 T ((it, .mapIter (some m) c #[] c) :: H) w' → K (.pointer (some ⟨it, 0, none⟩)) w') : RunG P (Instr.range t (.map (some m))) w K := by
 have hu : P.underlying t = some (.map kt et) := by have := und_of hT hi; rw [hk] at this; exact this
 refine RunG.of (v := .pointer (some ⟨w.heap.size, 0, none⟩)) (w' := w.alloc (.mapIter (some m) c #[] c)) ?_ (h _ _ hS.size (hS.alloc _))
 simp only [Instr.range, Sem.run_bind, run_underlying hu, Result.andThen_ok, getObj, Sem.run, hm, Sem.run_pure]
 rfl
structure VIt where
 seen : Array Nat
 dn : List (Int × Int)
 td : List (Int × Int)
set_option maxHeartbeats 4000000 in
theorem ValIt_spec {w0 w : World} {T : List Nat} {b1 m l : Nat} {es : Array MapEntry} {c : Nat} {kvs : List (Int × Int)} (hM : MapC intV intV es c kvs) (hm : w0.heap[m]? = some (.map es c)) (hmT : m ∉ T) (hb : w0.cell? ⟨b1, 0, none⟩ = some (.map (some m))) (hbT : b1 ∉ T)
  (G : List (Int × Int) → Heap → Prop)
  (hy : ∀ dn x (p : Nat × Obj) H w', dn.length < kvs.length → G dn H → St w0 T (p :: H) w' → ∀ K : Value → World → Prop, (∀ H2 w2, G (dn ++ [x]) H2 → St w0 T (p :: H2) w2 → K (.bool true) w2) → YldG Tryz.prog l [intV x.2] w' K)
  {H0 : Heap} (h0 : G [] H0) (hS : St w0 T H0 w) : Cl Tryz.prog f_maps_Values_map_int_int_int_int_1 [.func (.yield l) ⟨[]⟩ ⟨[]⟩, ptr b1] w fun _ w' => ∃ dn H, dn.Perm kvs ∧ G dn H ∧ St w0 T H w' := by
 refine en_maps_Values_map_int_int_int_int_1 rfl ?_
 refine SemM.toW ?_
 repeat (first | refine SemM.run tblOk ?_ | ((first | refine jA ?_ ?_ | refine jB ?_ ?_ | refine jC ?_ ?_ | refine jD ?_ ?_); omega) | refine jE rfl ?_ | refine jF (by first | omega | exact ptr_ok tblOk rfl rfl | decide) ?_ | (refine jG ?_; first | with_reducible (first | apply jH | apply jI | apply jJ | apply jK | apply jL) | refine jM (by omega) ?_ | refine jN (by omega) ?_ | with_reducible refine jM rfl ?_ | refine jM (by first | assumption | decide) ?_ | refine jN (by first | assumption | decide) ?_) | refine jO (fun _ => by kernel_rfl) ?_)
 refine hS.ldOld hbT hb ?_
 repeat (first | refine SemM.run tblOk ?_ | ((first | refine jA ?_ ?_ | refine jB ?_ ?_ | refine jC ?_ ?_ | refine jD ?_ ?_); omega) | refine jE rfl ?_ | refine jF (by first | omega | exact ptr_ok tblOk rfl rfl | decide) ?_ | (refine jG ?_; first | with_reducible (first | apply jH | apply jI | apply jJ | apply jK | apply jL) | refine jM (by omega) ?_ | refine jN (by omega) ?_ | with_reducible refine jM rfl ?_ | refine jM (by first | assumption | decide) ?_ | refine jN (by first | assumption | decide) ?_) | refine jO (fun _ => by kernel_rfl) ?_)
 refine St.rangeO tblOk rfl rfl hS (hS.oldBlock hmT hm) ?_
 intro it w1 _ hS
 repeat (first | refine SemM.run tblOk ?_ | ((first | refine jA ?_ ?_ | refine jB ?_ ?_ | refine jC ?_ ?_ | refine jD ?_ ?_); omega) | refine jE rfl ?_ | refine jF (by first | omega | exact ptr_ok tblOk rfl rfl | decide) ?_ | (refine jG ?_; first | with_reducible (first | apply jH | apply jI | apply jJ | apply jK | apply jL) | refine jM (by omega) ?_ | refine jN (by omega) ?_ | with_reducible refine jM rfl ?_ | refine jM (by first | assumption | decide) ?_ | refine jN (by first | assumption | decide) ?_) | refine jO (fun _ => by kernel_rfl) ?_)
 refine SemM.loop (fun z : VIt => [(0, .func (.yield l) ⟨[]⟩ ⟨[]⟩), (6, ptr it)])
  (fun z w' => MRg intV intV es z.seen kvs z.dn z.td ∧ ∃ H, G z.dn H ∧ St w0 T ((it, .mapIter (some m) c z.seen c) :: H) w') (fun z => z.td.length) ⟨#[], [], kvs⟩
  ⟨rfl, rfl, trivial⟩ ⟨MRg.start hM, H0, h0, hS⟩ ?_
 clear hS
 rintro ⟨seen, dn, td⟩ w2 ⟨hR, H, hG, hS⟩
 simp only at hR hG hS ⊢
 repeat (first | refine SemM.run tblOk ?_ | ((first | refine jA ?_ ?_ | refine jB ?_ ?_ | refine jC ?_ ?_ | refine jD ?_ ?_); omega) | refine jE rfl ?_ | refine jF (by first | omega | exact ptr_ok tblOk rfl rfl | decide) ?_ | (refine jG ?_; first | with_reducible (first | apply jH | apply jI | apply jJ | apply jK | apply jL) | refine jM (by omega) ?_ | refine jN (by omega) ?_ | with_reducible refine jM rfl ?_ | refine jM (by first | assumption | decide) ?_ | refine jN (by first | assumption | decide) ?_) | refine jO (fun _ => by kernel_rfl) ?_)
 refine St.nextM (kvs := kvs) hS (hS.oldBlock hmT hm) hM hR (fun htd => ?_) (fun A x B e w5 htd hR2 he1 he2 he3 hS => ?_)
 ·repeat (first | refine SemM.run tblOk ?_ | ((first | refine jA ?_ ?_ | refine jB ?_ ?_ | refine jC ?_ ?_ | refine jD ?_ ?_); omega) | refine jE rfl ?_ | refine jF (by first | omega | exact ptr_ok tblOk rfl rfl | decide) ?_ | (refine jG ?_; first | with_reducible (first | apply jH | apply jI | apply jJ | apply jK | apply jL) | refine jM (by omega) ?_ | refine jN (by omega) ?_ | with_reducible refine jM rfl ?_ | refine jM (by first | assumption | decide) ?_ | refine jN (by first | assumption | decide) ?_) | refine jO (fun _ => by kernel_rfl) ?_)
  subst htd
  have hp := hR.perm
  rw [kAk] at hp
  exact ⟨dn, H, hp, hG, hS.sub (kAb _ _)⟩
 ·repeat (first | refine SemM.run tblOk ?_ | ((first | refine jA ?_ ?_ | refine jB ?_ ?_ | refine jC ?_ ?_ | refine jD ?_ ?_); omega) | refine jE rfl ?_ | refine jF (by first | omega | exact ptr_ok tblOk rfl rfl | decide) ?_ | (refine jG ?_; first | with_reducible (first | apply jH | apply jI | apply jJ | apply jK | apply jL) | refine jM (by omega) ?_ | refine jN (by omega) ?_ | with_reducible refine jM rfl ?_ | refine jM (by first | assumption | decide) ?_ | refine jN (by first | assumption | decide) ?_) | refine jO (fun _ => by kernel_rfl) ?_)
  refine St.entryM (kvs := kvs) hS (hS.oldBlock hmT hm) hM he1 he2 he3 ?_
  repeat (first | refine SemM.run tblOk ?_ | ((first | refine jA ?_ ?_ | refine jB ?_ ?_ | refine jC ?_ ?_ | refine jD ?_ ?_); omega) | refine jE rfl ?_ | refine jF (by first | omega | exact ptr_ok tblOk rfl rfl | decide) ?_ | (refine jG ?_; first | with_reducible (first | apply jH | apply jI | apply jJ | apply jK | apply jL) | refine jM (by omega) ?_ | refine jN (by omega) ?_ | with_reducible refine jM rfl ?_ | refine jM (by first | assumption | decide) ?_ | refine jN (by first | assumption | decide) ?_) | refine jO (fun _ => by kernel_rfl) ?_)
  refine hy dn x _ H _ (by have := hR.perm.length_eq; rw [htd] at this; simp at this; omega) hG hS _ (fun H2 w6 hG2 hS => ?_)
  repeat (first | refine SemM.run tblOk ?_ | ((first | refine jA ?_ ?_ | refine jB ?_ ?_ | refine jC ?_ ?_ | refine jD ?_ ?_); omega) | refine jE rfl ?_ | refine jF (by first | omega | exact ptr_ok tblOk rfl rfl | decide) ?_ | (refine jG ?_; first | with_reducible (first | apply jH | apply jI | apply jJ | apply jK | apply jL) | refine jM (by omega) ?_ | refine jN (by omega) ?_ | with_reducible refine jM rfl ?_ | refine jM (by first | assumption | decide) ?_ | refine jN (by first | assumption | decide) ?_) | refine jO (fun _ => by kernel_rfl) ?_)
  exact ⟨⟨seen.push e.born, dn ++ [x], A ++ B⟩, ⟨rfl, rfl, trivial⟩, ⟨hR2, H2, hG2, hS⟩, by rw [htd]; simp⟩
set_option maxHeartbeats 4000000 in
theorem CollV_spec {w : World} {b1 m : Nat} {es : Array MapEntry} {c : Nat} {kvs : List (Int × Int)} (hM : MapC intV intV es c kvs) (hm : w.heap[m]? = some (.map es c)) (hb : w.cell? ⟨b1, 0, none⟩ = some (.map (some m))) (hl : kvs.length ≤ 1099511627776) :
  Cl Tryz.prog f_slices_Collect_int [.func (.func f_maps_Values_map_int_int_int_int_1) ⟨[]⟩ ⟨[ptr b1]⟩] w fun v w' => ∃ dn : List (Int × Int), dn.Perm kvs ∧ ∃ a c L, v = .slice a dn.length c ∧ Vec T_int 1 a dn.length c ((dn.map (·.2)).map intV) L ∧ St w [] L w' := by
 have hS := St.start w
 refine en_slices_Collect_int rfl ?_
 refine jq ⟨?_⟩
 have key : Cl Tryz.prog f_slices_AppendSeq_int_int [.slice none 0 0, .func (.func f_maps_Values_map_int_int_int_int_1) ⟨[]⟩ ⟨[ptr b1]⟩] w fun v w' => ∃ dn : List (Int × Int), dn.Perm kvs ∧ ∃ a c L, v = .slice a dn.length c ∧ Vec T_int 1 a dn.length c ((dn.map (·.2)).map intV) L ∧ St w [] L w' := by
  refine enX_slices_AppendSeq_int_int rfl ?_
  refine SemX.seq ?_
  refine jq ⟨?_⟩
  refine hS.al ?_
  intro b2 w1 _ hS
  (repeat (refine jt ⟨?_⟩; refine hS.st rfl rfl ?_; intro _ hS)); refine jt ⟨?_⟩
  refine SemX.rangeB rfl ?_
  (repeat (refine jt ⟨?_⟩; refine hS.st rfl rfl ?_; intro _ hS)); refine jt ⟨?_⟩
  refine ⟨_, [ptr b1], call_maps_Values_map_int_int_int_int_1, rfl, ?_⟩
  intro lo hy
  have hS := hS.rng (.deferred (some [])) (lo .ready none)
  generalize hlp : w1.heap.size + 1 = lp at hS hy ⊢
  generalize hD : w1.heap.size = D at hS ⊢
  refine Cl.mono (ValIt_spec (w0 := w) (T := []) hM hm (by simp) hb (by simp)
   (fun dn H => ∃ a c2 L, Vec T_int 1 a dn.length c2 ((dn.map (·.2)).map intV) L ∧ H = (lp, lo .ready none) :: (D, .deferred (some [])) :: (b2, .cells ⟨[.slice a dn.length c2]⟩ T_Sl_int (0, 0)) :: L) ?_ ⟨none, 0, [], Vec.nil, rfl⟩ hS) ?_
  ·rintro dn x p H w' hdl ⟨a, c2, L, hV, rfl⟩ hS K hK
   refine hy _ w' K (hS.mem (b := lp)) ?_
   repeat (first | refine SemM.run tblOk ?_ | ((first | refine jA ?_ ?_ | refine jB ?_ ?_ | refine jC ?_ ?_ | refine jD ?_ ?_); omega) | refine jE rfl ?_ | refine jF (by first | omega | exact ptr_ok tblOk rfl rfl | decide) ?_ | (refine jG ?_; first | with_reducible (first | apply jH | apply jI | apply jJ | apply jK | apply jL) | refine jM (by omega) ?_ | refine jN (by omega) ?_ | with_reducible refine jM rfl ?_ | refine jM (by first | assumption | decide) ?_ | refine jN (by first | assumption | decide) ?_) | refine jO (fun _ => by kernel_rfl) ?_)
   refine ⟨hS.mem (b := lp), ?_⟩
   have hS := hS.put (b := lp) (lo .busy none)
   generalize w'.putObj lp (lo .busy none) = w2 at hS ⊢
   have hS := hS
   repeat (first | refine SemM.run tblOk ?_ | ((first | refine jA ?_ ?_ | refine jB ?_ ?_ | refine jC ?_ ?_ | refine jD ?_ ?_); omega) | refine jE rfl ?_ | refine jF (by first | omega | exact ptr_ok tblOk rfl rfl | decide) ?_ | (refine jG ?_; first | with_reducible (first | apply jH | apply jI | apply jJ | apply jK | apply jL) | refine jM (by omega) ?_ | refine jN (by omega) ?_ | with_reducible refine jM rfl ?_ | refine jM (by first | assumption | decide) ?_ | refine jN (by first | assumption | decide) ?_) | refine jO (fun _ => by kernel_rfl) ?_ | refine hS.ld rfl ?_ | refine hS.ldn rfl ?_ | (refine hS.st rfl rfl ?_; intro _ hS))
   refine hS.al ?_
   intro b10 w3 _ hS
   repeat (first | refine SemM.run tblOk ?_ | ((first | refine jA ?_ ?_ | refine jB ?_ ?_ | refine jC ?_ ?_ | refine jD ?_ ?_); omega) | refine jE rfl ?_ | refine jF (by first | omega | exact ptr_ok tblOk rfl rfl | decide) ?_ | (refine jG ?_; first | with_reducible (first | apply jH | apply jI | apply jJ | apply jK | apply jL) | refine jM (by omega) ?_ | refine jN (by omega) ?_ | with_reducible refine jM rfl ?_ | refine jM (by first | assumption | decide) ?_ | refine jN (by first | assumption | decide) ?_) | refine jO (fun _ => by kernel_rfl) ?_ | refine hS.ld rfl ?_ | refine hS.ldn rfl ?_ | (refine hS.st rfl rfl ?_; intro _ hS))
   refine St.app (sz := 1) (m := 1) tblOk rfl rfl rfl rfl hS hV (news := [intV x.2]) rfl (by have := hS.arr (b := b10) (T' := []) (by simp); exact this) rfl (by show (_ + _) * 8 ≤ _; omega) (by omega) ?_
   intro a2 c3 L2 w4 hV2 hS
   repeat (first | refine SemM.run tblOk ?_ | ((first | refine jA ?_ ?_ | refine jB ?_ ?_ | refine jC ?_ ?_ | refine jD ?_ ?_); omega) | refine jE rfl ?_ | refine jF (by first | omega | exact ptr_ok tblOk rfl rfl | decide) ?_ | (refine jG ?_; first | with_reducible (first | apply jH | apply jI | apply jJ | apply jK | apply jL) | refine jM (by omega) ?_ | refine jN (by omega) ?_ | with_reducible refine jM rfl ?_ | refine jM (by first | assumption | decide) ?_ | refine jN (by first | assumption | decide) ?_) | refine jO (fun _ => by kernel_rfl) ?_ | refine hS.ld rfl ?_ | refine hS.ldn rfl ?_ | (refine hS.st rfl rfl ?_; intro _ hS))
   have hS := hS.sub (kAb _ _)
   have e1 : ((dn ++ [x]).map (·.2)).map intV = (dn.map (·.2)).map intV ++ [intV x.2] := by simp
   have e2 : (dn ++ [x]).length = dn.length + 1 := by simp
   exact ⟨hS.mem (b := lp), hK _ _ ⟨a2, c3, L2, by rw [e1, e2]; exact hV2, rfl⟩ (by rw [e2]; exact hS.put (b := lp) (lo .ready none))⟩
  ·rintro _ w3 ⟨dn, H, hp, ⟨a, c2, L, hV, rfl⟩, hS⟩
   refine ⟨.ready, none, hS.mem (b := lp), by decide, ?_⟩
   have hS := hS.put (b := lp) (lo .exhausted none)
   generalize w3.putObj lp (lo .exhausted none) = w4 at hS ⊢
   have hS := hS
   repeat (first | refine SemM.run tblOk ?_ | ((first | refine jA ?_ ?_ | refine jB ?_ ?_ | refine jC ?_ ?_ | refine jD ?_ ?_); omega) | refine jE rfl ?_ | refine jF (by first | omega | exact ptr_ok tblOk rfl rfl | decide) ?_ | (refine jG ?_; first | with_reducible (first | apply jH | apply jI | apply jJ | apply jK | apply jL) | refine jM (by omega) ?_ | refine jN (by omega) ?_ | with_reducible refine jM rfl ?_ | refine jM (by first | assumption | decide) ?_ | refine jN (by first | assumption | decide) ?_) | refine jO (fun _ => by kernel_rfl) ?_ | refine hS.ld rfl ?_ | refine hS.ldn rfl ?_ | (refine hS.st rfl rfl ?_; intro _ hS))
   refine ⟨hS.mem (b := D), ?_⟩
   have hS := hS.put (b := D) (.deferred none)
   generalize w4.putObj D (.deferred none) = w5 at hS ⊢
   have hS := hS
   repeat (first | refine SemM.run tblOk ?_ | ((first | refine jA ?_ ?_ | refine jB ?_ ?_ | refine jC ?_ ?_ | refine jD ?_ ?_); omega) | refine jE rfl ?_ | refine jF (by first | omega | exact ptr_ok tblOk rfl rfl | decide) ?_ | (refine jG ?_; first | with_reducible (first | apply jH | apply jI | apply jJ | apply jK | apply jL) | refine jM (by omega) ?_ | refine jN (by omega) ?_ | with_reducible refine jM rfl ?_ | refine jM (by first | assumption | decide) ?_ | refine jN (by first | assumption | decide) ?_) | refine jO (fun _ => by kernel_rfl) ?_ | refine hS.ld rfl ?_ | refine hS.ldn rfl ?_ | (refine hS.st rfl rfl ?_; intro _ hS))
   exact ⟨dn, hp, a, c2, L, rfl, hV, hS.sub (.cons _ (.cons _ (.cons _ (List.Sublist.refl _))))⟩
 refine key.mono ?_
 rintro _ w1 ⟨dn, hp, a, c2, L, rfl, hv, hS'⟩
 refine jq ⟨?_⟩
 exact ⟨dn, hp, a, c2, L, rfl, hv, hS'⟩
theorem Values_spec {w : World} {mb : Option Nat} : Cl Tryz.prog f_maps_Values_map_int_int_int_int [.map mb] w fun v w' => ∃ b1, v = .func (.func f_maps_Values_map_int_int_int_int_1) ⟨[]⟩ ⟨[ptr b1]⟩ ∧ St w [] [(b1, .cells ⟨[.map mb]⟩ T_map_int_int (0, 0))] w' := by
 have hS := St.start w
 refine en_maps_Values_map_int_int_int_int rfl ?_
 refine jq ⟨?_⟩
 refine hS.al ?_
 intro b1 w1 _ hS
 (repeat (refine jt ⟨?_⟩; refine hS.st rfl rfl ?_; intro _ hS)); refine jt ⟨?_⟩
 refine RunG.of rfl ?_
 refine jq ⟨?_⟩
 exact ⟨b1, rfl, hS⟩
end Go.Proofs.YtkgibdhpijdbfaaGreatDoor
namespace Go.Proofs.YtkgibdhpijdbfaaGreatDoor
open Go Go.Eng Go.Proofs Go.Srt
theorem StO.tabP {sb f : Nat} {s : StM} {m : FSm} {L : Heap} (hO : StO sb f s m L) : ∃ tm et ct ks, MapC intV (fun b : Nat => ptr b) et ct ks ∧ (s.tabs.map (·.1)).Nodup ∧ ∀ w, Holds L w → w.cell? ⟨sb, 13, none⟩ = some (.map (some tm)) ∧ w.heap[tm]? = some (.map et ct) ∧
  ∀ n l, (n, l) ∈ s.tabs → ∃ tb, kget n ks = some tb ∧ ∃ a c nb, TabR w tb l a c nb := by
 obtain ⟨sq, es, c, hsq, ha, hc, Lh, hvh, a, ca, La, hv, lv, Ll, hl, gv, Lg, hg, mb, Lm, hm, tm, et, ct, ks, ht, Lt, hts, LF, hF⟩ := hO
 have hkk := hts.keys
 have hnk := ht.nodupK KEnc.i64
 have hnd : (s.tabs.map (·.1)).Nodup := by rw [← hkk]; exact hnk
 refine ⟨tm, et, ct, ks, ht, hnd, fun w hw => ⟨(St.enter hw).cell (b := sb) (off := 13) rfl, (St.enter hw).mem (b := tm), fun n l hnl => ?_⟩⟩
 have h1 : n ∈ ks.map (·.1) := by rw [hkk]; exact kAw (f := (·.1)) hnl
 obtain ⟨y, hy, hyn⟩ := kAm.1 h1
 subst hyn
 obtain ⟨l2, h2, h3⟩ := hts.read ((St.enter hw).part (L := Lt)) hy
 have h4 := kget_of_mem hnd hnl
 rw [kget_of_mem hnd h2] at h4
 cases h4
 exact ⟨y.2, kget_of_mem hnk (show (y.1, y.2) ∈ ks from hy), h3⟩
theorem StO.fileP {sb f : Nat} {s : StM} {m : FSm} {L : Heap} (hO : StO sb f s m L) : ∃ a ca, ∀ w, Holds L w → w.cell? ⟨sb, 6, none⟩ = some (.slice a s.v.files.length ca) ∧ FilesAt w a ca s.v.files := by
 obtain ⟨sq, es, c, hsq, ha, hc, Lh, hvh, a, ca, La, hv, lv, Ll, hl, gv, Lg, hg, mb, Lm, hm, tm, et, ct, ks, ht, Lt, hts, LF, hF⟩ := hO
 exact ⟨a, ca, fun w hw => ⟨(St.enter hw).cell (b := sb) (off := 6) rfl, filesAt_vec (St.enter hw) hv.vec⟩⟩
theorem StO.seqP {sb f : Nat} {s : StM} {m : FSm} {L : Heap} (hO : StO sb f s m L) : ∃ sq es c, MapC intV intV es c s.seqs ∧ ∀ w, Holds L w → w.cell? ⟨sb, 1, none⟩ = some (.map (some sq)) ∧ w.heap[sq]? = some (.map es c) := by
 obtain ⟨sq, es, c, hsq, ha, hc, Lh, hvh, a, ca, La, hv, lv, Ll, hl, gv, Lg, hg, mb, Lm, hm, tm, et, ct, ks, ht, Lt, hts, LF, hF⟩ := hO
 exact ⟨sq, es, c, hsq, fun w hw => ⟨(St.enter hw).cell (b := sb) (off := 1) rfl, (St.enter hw).mem (b := sq)⟩⟩
theorem trimE_sublist (seen : List Int) (l : List EntM) : (trimE seen l).Sublist l := by
 have h : ∀ gs : List (List EntM), (gs.flatMap (trimG seen)).Sublist gs.flatten := by
  intro gs
  induction gs with
  |nil => exact .refl _
  |cons g gs ih => rw [kBo, kBi]; exact (trimG_sub seen g).append ih
 have := h (grpE l)
 rw [grpE_flat] at this
 exact this
def tabsE (s : StM) : List EntM := (s.tabs.map (·.2)).flatten
structure SCo (s : StM) : Prop where
 tab : ∀ x ∈ s.tabs, TabF x.2
 one : OneE (tabsE s)
 num : (tabsE s).length ≤ 4194304
 files : (s.v.files.map (·.2)).Perm (s.tabs.map (·.1))
 seqs : s.seqs.length ≤ 1099511627776
theorem SCo.mem {s : StM} (h : SCo s) {r : List EntM} (hp : r.Perm (tabsE s)) (hr : Rise r) (seen : List Int) : MemF (trimE seen r) := by
 have hx : ∀ x ∈ trimE seen r, ∃ y ∈ s.tabs, x ∈ y.2 := fun x hx => by
  have h1 : x ∈ tabsE s := hp.mem_iff.1 (trimE_sub seen x hx)
  obtain ⟨l, hl, hxl⟩ := kCx.1 h1
  obtain ⟨y, hy, rfl⟩ := kAm.1 hl
  exact ⟨y, hy, hxl⟩
 have hn := (trimE_sublist seen r).length_le
 have h2 := hp.length_eq
 have h3 := h.num
 exact ⟨trimE_rise hr seen, fun x hx' hd => by obtain ⟨y, hy, hxy⟩ := hx x hx'; exact (h.tab y hy).fine x hxy hd, fun x hx' => by obtain ⟨y, hy, hxy⟩ := hx x hx'; exact (h.tab y hy).seqs x hxy, fun x hx' => by obtain ⟨y, hy, hxy⟩ := hx x hx'; exact (h.tab y hy).sz x hxy, by omega⟩
theorem delAll_step {m mi : FSm} {ns : List Bytes} {k : Nat} (h : delAll ns m = delAll (ns.drop k) mi) (hk : k < ns.length) : delAll ns m = if (deleteM mi ns[k]).1 ≠ 0 then deleteM mi ns[k] else delAll (ns.drop (k + 1)) (deleteM mi ns[k]).2 := by
 rw [h, kBs hk]; rfl
structure Up (m : FSm) : Prop where
 off : m.off = false
 fates : m.fates = []
theorem Up.fate {m : FSm} (h : Up m) : fateOf m = 0 := by unfold fateOf; rw [h.fates]; rfl
theorem Up.acted {m : FSm} (h : Up m) : Up (acted m) := ⟨by unfold Proofs.YtkgibdhpijdbfaaGreatDoor.acted; simp [h.fate], h.fates⟩
theorem Up.find {m : FSm} (h : Up m) (n : Bytes) : findM m n = match fget m n with | none => (([], 0), 5) | some x => (x, 0) := by unfold findM; rw [h.off]; rfl
theorem Up.find_some {m : FSm} (h : Up m) {n : Bytes} {x : Bytes × Nat} (hx : fget m n = some x) : findM m n = (x, 0) := by rw [h.find, hx]
theorem Up.find_none {m : FSm} (h : Up m) {n : Bytes} (hx : fget m n = none) : findM m n = (([], 0), 5) := by rw [h.find, hx]
theorem fget_put (m : FSm) (n k : Bytes) (x : Bytes × Nat) : fget { m with files := kput n x m.files } k = if k = n then some x else fget m k := by unfold fget; exact kget_kput n x k m.files
theorem append_up {m : FSm} (h : Up m) {n : Bytes} (hn : named n = true) (ps : List Bytes) :
  (appendM m n ps).1 = 0 ∧ Up (appendM m n ps).2 ∧ ∀ k, fget (appendM m n ps).2 k = if k = n then some (((fget m n).getD ([], 0)).1 ++ ps.flatten, ((fget m n).getD ([], 0)).2) else fget m k := by
 unfold appendM
 rw [h.off, hn, h.fate]
 simp only [Bool.false_eq_true, if_false, Bool.not_true, h.acted.off, show ¬ (0 : Int) = 3 by decide, show ¬ (0 : Int) = 1 by decide]
 exact ⟨trivial, ⟨rfl, h.fates⟩, fun k => fget_put (acted m) n k _⟩
theorem sync_up {m : FSm} (h : Up m) {n : Bytes} {x : Bytes × Nat} (hx : fget m n = some x) :
  (syncM m n).1 = 0 ∧ Up (syncM m n).2 ∧ ∀ k, fget (syncM m n).2 k = if k = n then some (x.1, x.1.length) else fget m k := by
 unfold syncM
 rw [h.find_some hx, h.fate]
 simp only [ne_eq, not_true_eq_false, if_false, h.acted.off, show ¬ (0 : Int) = 1 by decide, Bool.false_eq_true]
 exact ⟨trivial, ⟨rfl, h.fates⟩, fun k => fget_put (acted m) n k _⟩
theorem delete_up {m : FSm} (h : Up m) (hnd : (m.files.map (·.1)).Nodup) (n : Bytes) :
  (deleteM m n).1 = (if (fget m n).isSome then 0 else 5) ∧ Up (deleteM m n).2 ∧ ∀ k, fget (deleteM m n).2 k = if k = n then none else fget m k := by
 unfold deleteM
 cases hx : fget m n with
 |none =>
  rw [h.find_none hx]
  refine ⟨rfl, h, fun k => ?_⟩
  by_cases hk : k = n
  ·rw [if_pos hk, hk]; exact hx
  ·rw [if_neg hk]; rfl
 |some x =>
  rw [h.find_some hx, h.fate]
  simp only [ne_eq, not_true_eq_false, if_false, h.acted.off, show ¬ (0 : Int) = 1 by decide, Bool.false_eq_true]
  exact ⟨rfl, ⟨rfl, h.fates⟩, fun k => by unfold fget; exact kdel_get n k hnd⟩
theorem file_up {A : Nat} {m : FSm} (h : Up m) (hB : FB A m) {n : Bytes} (hn : named n = true) (t : Bytes) :
  (fileM m n t).1 = 0 ∧ Up (fileM m n t).2 ∧ ∀ k, fget (fileM m n t).2 k = if k = n then some (t, t.length) else fget m k := by
 obtain ⟨d1, d2, d3⟩ := delete_up h hB.nd n
 unfold fileM
 have hd : ¬ ((deleteM m n).1 ≠ 0 ∧ (deleteM m n).1 ≠ 5) := by rw [d1]; split <;> simp
 rw [if_neg hd]
 obtain ⟨a1, a2, a3⟩ := append_up d2 hn [t]
 rw [if_neg (by rw [a1]; simp)]
 have hg : fget (appendM (deleteM m n).2 n [t]).2 n = some (t, 0) := by rw [a3, if_pos rfl, d3, if_pos rfl]; simp
 obtain ⟨s1, s2, s3⟩ := sync_up a2 hg
 refine ⟨s1, s2, fun k => ?_⟩
 rw [s3]
 by_cases hk : k = n
 ·rw [if_pos hk, if_pos hk]
 ·rw [if_neg hk, if_neg hk, a3, if_neg hk, d3, if_neg hk]
theorem rewrite_up {A : Nat} {m : FSm} (h : Up m) (hB : FB A m) {n : Bytes} (hn : named n = true) {ps : List Bytes} (hp : okLens ps = true) :
  (rewriteM m n ps).1 = 0 ∧ Up (rewriteM m n ps).2 ∧ ∀ k, fget (rewriteM m n ps).2 k = if k = n then some (sealB ps, (sealB ps).length) else fget m k := by
 unfold rewriteM
 rw [hp]
 exact file_up h hB hn _
theorem rename_up {A : Nat} {m : FSm} (h : Up m) (hB : FB A m) {a b : Bytes} (hb : named b = true) (hab : a ≠ b) {x : Bytes × Nat} (hx : fget m a = some x) :
  (renameM m a b).1 = 0 ∧ Up (renameM m a b).2 ∧ ∀ k, fget (renameM m a b).2 k = if k = b then some x else if k = a then none else fget m k := by
 unfold renameM
 rw [hb, h.find_some hx, h.fate]
 simp only [Bool.true_eq_false, and_false, if_false, ne_eq, not_true_eq_false, h.acted.off, show ¬ (0 : Int) = 1 by decide, Bool.false_eq_true]
 refine ⟨trivial, ⟨rfl, h.fates⟩, fun k => ?_⟩
 show kget k (kput b x (kdel a m.files)) = _
 rw [kget_kput, kdel_get _ _ hB.nd]
 rfl
theorem Up.open {m : FSm} (h : Up m) {n : Bytes} (hn : named n = true) : openE m n = 0 := by unfold openE; rw [h.off, hn]; rfl
structure GoodLg (g : LogM) (N : Nat) : Prop where
 torn : g.torn = false
 dead : g.dead = false
 name : named g.name = true
 num : g.n ≤ N
theorem appL_up {m : FSm} (h : Up m) {g : LogM} {N : Nat} (hg : GoodLg g N) {ps : List Bytes} (hp : okLens ps = true) (hne : ps ≠ []) :
  (appL m g ps).1 = 0 ∧ (appL m g ps).2.1 = { g with n := g.n + ps.length } ∧ Up (appL m g ps).2.2 ∧ ∀ k, fget (appL m g ps).2.2 k = if k = g.name then some (((fget m g.name).getD ([], 0)).1 ++ sealB ps, (((fget m g.name).getD ([], 0)).1 ++ sealB ps).length) else fget m k := by
 obtain ⟨a1, a2, a3⟩ := append_up h hg.name [sealB ps]
 have hx : fget (appendM m g.name [sealB ps]).2 g.name = some (((fget m g.name).getD ([], 0)).1 ++ sealB ps, ((fget m g.name).getD ([], 0)).2) := by rw [a3, if_pos rfl]; simp
 obtain ⟨s1, s2, s3⟩ := sync_up a2 hx
 have e : logAppM m g.name g.n g.torn g.dead ps = (0, (g.n + ps.length, false), (syncM (appendM m g.name [sealB ps]).2 g.name).2) := by
  unfold logAppM
  rw [hg.dead, h.off, hg.torn, hp, a1, s1]
  simp [hne]
 unfold appL
 rw [e]
 refine ⟨rfl, by simp only [hg.dead.symm], s2, fun k => ?_⟩
 show fget (syncM (appendM m g.name [sealB ps]).2 g.name).2 k = _
 rw [s3]
 by_cases hk : k = g.name
 ·rw [if_pos hk, if_pos hk]
 ·rw [if_neg hk, if_neg hk, a3, if_neg hk]
/-! ## Names -/
theorem named_of {n : Bytes} (h1 : n ≠ []) (h2 : n.length ≤ 40) : named n = true := by unfold named; simp [h1, h2]
theorem named_t {n : Int} (h : i64r n) : named (tName n) = true := named_of (by unfold tName; simp) (by have := (names_len h).1; omega)
theorem named_w {n : Int} (h : i64r n) : named (wName n) = true := named_of (by unfold wName; simp) (by have := (names_len h).2.1; omega)
theorem named_l {n : Int} (h : i64r n) : named (lName n) = true := named_of (by unfold lName; simp) (by have := (names_len h).2.2; omega)
theorem named_cur : named curN = true := by decide
theorem named_new : named newN = true := by decide
theorem editsB_ok {v : VM} (ho : OkE (wholeE v)) : okLens (editsB v) = true := by
 unfold okLens
 rw [kBd]
 intro p hp
 obtain ⟨e, he, rfl⟩ := kAm.1 hp
 obtain ⟨i, -, rfl⟩ := kAm.1 he
 have hpl : (editP v i).add.length ≤ 2000 := by
  show ((v.files.drop (i * 2000)).take 2000).length ≤ 2000
  rw [kAo]; omega
 have := editB_len (ok_part ho i) (by omega) rfl
 exact decide_eq_true (by omega)
theorem editN_le {v : VM} (h : v.files.length ≤ 8388608) : editN v ≤ 4196 := by unfold editN; omega
theorem apply_ok {v : VM} {e : EM} (hv : Good v) (h1 : ∀ f ∈ e.add, okAdd f = true ∧ v.next ≤ f.2 ∧ f.2 < e.next) (h2 : (e.add.map (·.2)).Nodup) (hd : e.del = [] ∨ e.del = v.files.map (·.2)) (hn : v.next ≤ e.next) (hs : v.seq ≤ e.seq) (hw : 0 ≤ e.wal) :
  ∃ nx, applyM v e = some nx ∧ nx.wal = e.wal ∧ nx.next = e.next ∧ nx.seq = e.seq ∧ nx.files.Perm ((if e.del = [] then v.files else []) ++ e.add) := by
 obtain ⟨hf, hnn, -⟩ := hv
 have hdel : ∀ n ∈ e.del, ∃ f ∈ v.files, f.2 = n := by
  rcases hd with hd | hd
  ·rw [hd]; intro n hn; cases hn
  ·rw [hd]; intro n hn; exact kAm.1 hn
 have hst : startOK v e = true := by
  unfold startOK rightE
  simp only [Bool.and_eq_true, decide_eq_true_iff, kBd]
  refine ⟨⟨⟨⟨fun f hf => (h1 f hf).1, fun n hn => ?_⟩, hw, by omega, by omega⟩, hn⟩, hs⟩
  obtain ⟨f, hfm, rfl⟩ := hdel n hn
  have := okAdd_iff.1 (hf.1 f hfm).1
  unfold okDel
  simp; omega
 have hdl : delOK e v.files = true := by
  unfold delOK
  rw [kBd]
  intro n hn
  simp only [Bool.and_eq_true, decide_eq_true_iff]
  obtain ⟨f, hfm, rfl⟩ := hdel n hn
  refine ⟨?_, (hasF_mem _ _).2 (kAw hfm)⟩
  rcases hd with hd | hd
  ·rw [hd] at hn; cases hn
  ·rw [hd]; rw [hd] at hn; have h5 := List.nodup_iff_count.1 hf.2 f.2
   have h6 := List.count_pos_iff.2 hn
   omega
 have hk : keepF e v.files = if e.del = [] then v.files else [] := by
  unfold keepF
  by_cases he : e.del = []
  ·rw [if_pos he, he]; simp
  ·rw [if_neg he]
   rcases hd with hd | hd
   ·exact absurd hd he
   ·rw [List.filter_eq_nil_iff]
    intro f hf
    rw [hd]
    simp only [List.contains_eq_mem, Bool.not_eq_true', decide_eq_false_iff_not, Decidable.not_not]
    exact kAw hf
 have hg : GoodF e.next (keepF e v.files ++ e.add) := by
  rw [hk]
  refine ⟨fun f hf' => ?_, ?_⟩
  ·rcases kAl.1 hf' with h | h
   ·split at h
    ·have := hf.1 f h; exact ⟨this.1, by omega⟩
    ·cases h
   ·exact ⟨(h1 f h).1, (h1 f h).2.2⟩
  ·rw [kAi, kBw]
   refine ⟨?_, h2, fun a ha b hb e' => ?_⟩
   ·split
    ·exact hf.2
    ·exact List.nodup_nil
   ·subst e'
    split at ha
    ·obtain ⟨f, hf1, rfl⟩ := kAm.1 ha
     obtain ⟨g, hg1, hg2⟩ := kAm.1 hb
     have h3 := (hf.1 f hf1).2
     have h4 := (h1 g hg1).2.1
     omega
    ·cases ha
 have ha := addAll_all e.add (keepF e v.files) hg
 refine ⟨⟨sortF (keepF e v.files ++ e.add), e.wal, e.next, e.seq⟩, ?_, rfl, rfl, rfl, ?_⟩
 ·unfold applyM
  rw [hst, hdl, ha]; rfl
 ·rw [← hk]; exact sortF_perm _
theorem openL_seal {m : FSm} (h : Up m) {n : Bytes} {ps : List Bytes} {y : Nat} (hp : okLens ps = true) (hx : fget m n = some (sealB ps, y)) : openL m n = ⟨ps.length, n, false, false⟩ := by
 unfold openL
 rw [h.find_some hx]
 simp only [scan_seal ps hp]
 simp
theorem openL_none {m : FSm} (h : Up m) {n : Bytes} (hx : fget m n = none) : openL m n = ⟨0, n, false, false⟩ := by
 unfold openL
 rw [h.find_none hx]
 have := scan_seal [] rfl
 unfold sealB at this
 simp only [kC, kCc] at this
 simp only [this]
 simp
theorem new_ne_cur : newN ≠ curN := by decide
structure EdOut (m : FSm) (g : LogM) (x : EM) (nx : VM) (g' : LogM) (v' : VM) (m' : FSm) : Prop where
 files : v'.files = nx.files
 wal : v'.wal = nx.wal
 seq : v'.seq = nx.seq
 next : nx.next ≤ v'.next ∧ v'.next ≤ nx.next + 1
 good : GoodV v'
 up : Up m'
 lg : ∀ N, GoodLg g N → 4200 ≤ N → GoodLg g' (N + 1)
 disk : (g' = { g with n := g.n + 1 } ∧ v' = nx ∧ (editB x).length ≤ 65536 ∧ (∀ k, fget m' k = if k = g.name then some (((fget m g.name).getD ([], 0)).1 ++ sealB [editB x], (((fget m g.name).getD ([], 0)).1 ++ sealB [editB x]).length) else fget m k)) ∨
  (g'.name = lName nx.next ∧ v' = { nx with next := nx.next + 1 } ∧ fget m' (lName nx.next) = some (sealB (editsB v'), (sealB (editsB v')).length) ∧ (∃ y, fget m' curN = some (lName nx.next, y)) ∧ ∀ k, k ≠ lName nx.next → k ≠ curN → k ≠ newN → fget m' k = fget m k)
theorem EdOut.lname {m : FSm} {g : LogM} {x : EM} {nx : VM} {g' : LogM} {v' : VM} {m' : FSm} (h : EdOut m g x nx g' v' m') (hg : ∃ j, g.name = lName j) : ∃ j, g'.name = lName j := by
 rcases h.disk with ⟨h1, -⟩ | ⟨h1, -⟩
 ·obtain ⟨j, hj⟩ := hg; exact ⟨j, by rw [h1]; exact hj⟩
 ·exact ⟨_, h1⟩
theorem EdOut.keep {m : FSm} {g : LogM} {x : EM} {nx : VM} {g' : LogM} {v' : VM} {m' : FSm} (h : EdOut m g x nx g' v' m') (hg : ∃ j, g.name = lName j) (k : Bytes) (h1 : ∀ j, k ≠ lName j) (h2 : k ≠ curN) (h3 : k ≠ newN) : fget m' k = fget m k := by
 rcases h.disk with ⟨-, -, -, h4⟩ | ⟨-, -, -, -, h4⟩
 ·obtain ⟨j, hj⟩ := hg; rw [h4, if_neg (by rw [hj]; exact h1 j)]
 ·exact h4 k (h1 _) h2 h3
theorem l_ne (n : Int) : lName n ≠ curN ∧ lName n ≠ newN := by
 unfold lName curN newN
 constructor <;> intro h <;> cases h
theorem edit_up {A T N : Nat} {s : StM} {m : FSm} {x : EM} {nx : VM} {g : LogM} (mk : List (Int × List EntM)) (h : Up m) (hF : FT A T m) (hg : s.list = some g) (hgl : GoodLg g N) (ha : applyM s.v x = some nx) (hnx : GoodV nx) (hn : 0 ≤ nx.next ∧ nx.next + 1 ≤ 2305843009213693952) :
  ∃ g' v' m', editM s m x mk = (0, { s with list := some g', v := v', tabs := tabsWith s.tabs mk x.del }, m') ∧ EdOut m g x nx g' v' m' := by
 unfold editM
 rw [ha]
 simp only
 by_cases hlong : 65536 < (editB x).length
 ·rw [if_pos hlong]
  obtain ⟨n1, n2, n3, -, -⟩ := hnx.next_fine hn.2
  have hw := hnx.succ hn.2
  have hln : i64r nx.next := ⟨by omega, by omega⟩
  have hok : okLens (editsB { nx with next := nx.next + 1 }) = true := editsB_ok n2
  have hes : (editsB { nx with next := nx.next + 1 }).length ≤ 4196 := by rw [editsB_len]; exact editN_le hnx.num
  unfold relistM
  simp only
  obtain ⟨a1, a2, a3⟩ := rewrite_up h hF.fb (named_l hln) hok
  have hB1 := hF.fb.rewrite (lName nx.next) (editsB { nx with next := nx.next + 1 }) (by rw [sealB_len]; omega)
  generalize rewriteM m (lName nx.next) (editsB { nx with next := nx.next + 1 }) = q1 at a1 a2 a3 hB1 ⊢
  obtain ⟨e1, m1⟩ := q1
  simp only at a1 a2 a3 hB1 ⊢
  subst a1
  try simp only [ne_eq, not_true_eq_false, if_false, if_true, ite_not]
  have hnm := (names_len hln).2.2
  obtain ⟨b1, b2, b3⟩ := file_up a2 hB1 named_new (lName nx.next)
  have hB2 := hB1.file newN (lName nx.next) (by omega)
  generalize fileM m1 newN (lName nx.next) = q2 at b1 b2 b3 hB2 ⊢
  obtain ⟨e2, m2⟩ := q2
  simp only at b1 b2 b3 hB2 ⊢
  subst b1
  try simp only [ne_eq, not_true_eq_false, if_false, if_true, ite_not]
  obtain ⟨c1, c2, c3⟩ := rename_up b2 hB2 named_cur new_ne_cur (by rw [b3, if_pos rfl])
  generalize renameM m2 newN curN = q3 at c1 c2 c3 ⊢
  obtain ⟨e3, m3⟩ := q3
  simp only at c1 c2 c3 ⊢
  subst c1
  try simp only [ne_eq, not_true_eq_false, if_false, if_true, ite_not]
  obtain ⟨l1, l2⟩ := l_ne nx.next
  have hgl3 : fget m3 (lName nx.next) = some (sealB (editsB { nx with next := nx.next + 1 }), (sealB (editsB { nx with next := nx.next + 1 })).length) := by
   rw [c3, if_neg l1, if_neg l2, b3, if_neg l2, a3, if_pos rfl]
  rw [c2.open (named_l hln)]
  try simp only [ne_eq, not_true_eq_false, if_false, if_true, ite_not]
  have hol := openL_seal c2 hok hgl3
  rw [hol]
  refine ⟨_, _, m3, rfl, rfl, rfl, rfl, ⟨by (try simp only); omega, by (try simp only); omega⟩, hw, c2, fun N hN hN2 => ⟨rfl, rfl, named_l hln, by simp only; omega⟩, .inr ⟨rfl, rfl, hgl3, ⟨_, by rw [c3, if_pos rfl]⟩, fun k h1 h2 h3 => ?_⟩⟩
  rw [c3, if_neg h2, if_neg h3, b3, if_neg h3, a3, if_neg h1]
 ·rw [if_neg hlong, hg]
  simp only
  have hok : okLens [editB x] = true := by unfold okLens; simp; omega
  obtain ⟨a1, a2, a3, a4⟩ := appL_up h hgl hok (by simp)
  generalize appL m g [editB x] = q at a1 a2 a3 a4 ⊢
  obtain ⟨e1, g1, m1⟩ := q
  simp only at a1 a2 a3 a4 ⊢
  subst a1 a2
  try simp only [ne_eq, not_true_eq_false, if_false, if_true, ite_not]
  exact ⟨_, nx, m1, rfl, rfl, rfl, rfl, ⟨kCb _, by omega⟩, hnx, a3, fun N hN hN2 => ⟨hN.torn, hN.dead, hN.name, by have := hN.num; simp only [kAe, kAq]; omega⟩, .inl ⟨rfl, rfl, by omega, a4⟩⟩
theorem tName_inj {i j : Int} (hi : i64r i) (hj : i64r j) (h : tName i = tName j) : i = j := itoa_inj hi hj (by unfold tName at h; exact (List.cons.inj h).2)
theorem lay_up {T : Nat} (hT : 1048576 ≤ T ∧ T ≤ 1099511627776) : ∀ (cs : List (List EntM)) {A : Nat} {m : FSm} (n : Int), Up m → FT A T m → (∀ c ∈ cs, TabF c) → 0 ≤ n → n + cs.length ≤ 4611686018427387904 →
  (layM m n cs).1 = 0 ∧ Up (layM m n cs).2 ∧ (∀ k, (∀ i, n ≤ i → i < n + cs.length → k ≠ tName i) → fget (layM m n cs).2 k = fget m k) ∧ ∀ x ∈ numsFrom n cs, fget (layM m n cs).2 (tName x.1) = some (tableB x.2, (tableB x.2).length)
 |[], A, m, n, h, _, _, _, _ => ⟨rfl, h, fun k _ => rfl, fun x hx => by cases hx⟩
 |c :: cs, A, m, n, h, hF, hc, h0, hn => by
  rw [kAe] at hn
  have hi : i64r n := ⟨by omega, by omega⟩
  have hb := (hc c (by simp)).bytes
  obtain ⟨f1, f2, f3⟩ := file_up h hF.fb (named_t hi) (tableB c)
  have hF2 := hF.file (tName n) (tableB c) (by omega) hT.2
  obtain ⟨i1, i2, i3, i4⟩ := lay_up hT cs (n + 1) f2 hF2 (fun c hc' => hc c (by simp [hc'])) (by omega) (by omega)
  have e : layM m n (c :: cs) = layM (fileM m (tName n) (tableB c)).2 (n + 1) cs := by rw [layM, if_neg (by rw [f1]; simp)]
  rw [e]
  refine ⟨i1, i2, fun k hk => ?_, fun x hx => ?_⟩
  ·rw [i3 k fun i h1 h2 => hk i (by omega) (by rw [kAe]; omega), f3, if_neg (hk n (kCb _) (by rw [kAe]; omega))]
  ·rw [numsFrom] at hx
   rcases kAf.1 hx with rfl | hx
   ·rw [i3 (tName n) fun i h1 h2 h3 => by have := tName_inj hi ⟨by omega, by omega⟩ h3; omega, f3, if_pos rfl]
   ·exact i4 x hx
theorem wName_inj {i j : Int} (hi : i64r i) (hj : i64r j) (h : wName i = wName j) : i = j := itoa_inj hi hj (by unfold wName at h; exact (List.cons.inj h).2)
theorem w_ne_t (i j : Int) : wName i ≠ tName j := by unfold wName tName; intro h; cases h
theorem w_ne_l (i j : Int) : wName i ≠ lName j := by unfold wName lName; intro h; cases h
theorem t_ne_l (i j : Int) : tName i ≠ lName j := by unfold tName lName; intro h; cases h
theorem w_ne (n : Int) : wName n ≠ curN ∧ wName n ≠ newN := by
 unfold wName curN newN
 constructor <;> intro h <;> cases h
theorem t_ne (n : Int) : tName n ≠ curN ∧ tName n ≠ newN := by
 unfold tName curN newN
 constructor <;> intro h <;> cases h
theorem numsFrom_nodup {α : Type} : ∀ (cs : List α) (n : Int), ((numsFrom n cs).map (·.1)).Nodup
 |[], n => List.nodup_nil
 |c :: cs, n => by
  rw [numsFrom, kAh, kBq]
  refine ⟨fun h => ?_, numsFrom_nodup cs (n + 1)⟩
  have := (numsFrom_keys cs (n + 1) n).1 h
  omega
theorem filesOf_nums (lev : Int) (l : List (Int × List EntM)) : (filesOf lev l).map (·.2) = l.map (·.1) := by unfold filesOf; rw [kBz]; rfl
structure FlOut (s : StM) (m : FSm) (mk : List (Int × List EntM)) (g : LogM) (m1 : FSm) (nx : VM) (g' : LogM) (v' : VM) (m2 m3 : FSm) : Prop where
 lay : layM m s.v.next (pieces 64 s.mem) = (0, m1)
 app : applyM s.v ⟨filesOf 0 (numsFrom s.v.next (pieces 64 s.mem)), [], s.v.next + (pieces 64 s.mem).length, s.v.next + (pieces 64 s.mem).length + 1, s.seq⟩ = some nx
 files : nx.files.Perm (s.v.files ++ filesOf 0 (numsFrom s.v.next (pieces 64 s.mem)))
 wal : nx.wal = s.v.next + (pieces 64 s.mem).length
 next : nx.next = s.v.next + (pieces 64 s.mem).length + 1
 seq : nx.seq = s.seq
 ed : EdOut m1 g ⟨filesOf 0 (numsFrom s.v.next (pieces 64 s.mem)), [], s.v.next + (pieces 64 s.mem).length, s.v.next + (pieces 64 s.mem).length + 1, s.seq⟩ nx g' v' m2
 del : ∀ k, fget m3 k = if k = wName s.v.wal then none else fget m2 k
 up : Up m3
 same : ∀ k, (∀ i, s.v.next ≤ i → i < s.v.next + (pieces 64 s.mem).length → k ≠ tName i) → fget m1 k = fget m k
 laid : ∀ x ∈ numsFrom s.v.next (pieces 64 s.mem), fget m1 (tName x.1) = some (tableB x.2, (tableB x.2).length)
 out : flushM s m mk = (0, { s with list := some g', v := v', tabs := tabsWith s.tabs mk [], mem := [], adds := 0, log := some (openL m2 (wName (s.v.next + (pieces 64 s.mem).length))) }, m3)
theorem flush_up {A T N : Nat} {s : StM} {m : FSm} {g : LogM} (mk : List (Int × List EntM)) (h : Up m) (hF : FT A T m) (hT : 536870912 ≤ T ∧ T + 65544 ≤ 1099511627776) (hg : s.list = some g) (hgl : GoodLg g N) (hv : GoodV s.v) (h1 : 1 ≤ s.v.next) (hn : s.v.next ≤ 1152921504606846976) (hvn : s.v.files.length ≤ 4194304)
  (hm : MemF s.mem) (hne : s.mem ≠ []) (hsq : s.v.seq ≤ s.seq ∧ s.seq ≤ 1152921504606846976) :
  ∃ m1 nx g' v' m2 m3, FlOut s m mk g m1 nx g' v' m2 m3 ∧ FT (A + 3 * s.mem.length + 8) (T + 65544) m3 := by
 have hcs := pieces_cnt 64 s.mem (by omega)
 have hmn := hm.num
 obtain ⟨l1, l2, l3, l4⟩ := lay_up ⟨by omega, by omega⟩ (pieces 64 s.mem) s.v.next h hF hm.tab (by omega) (by omega)
 have hF1 := FT.lay ⟨by omega, by omega⟩ (pieces 64 s.mem) s.v.next hF hm.tab
 have hfo := filesOf_mem 0 (pieces 64 s.mem) s.v.next
 have hfl : (filesOf 0 (numsFrom s.v.next (pieces 64 s.mem))).length = (pieces 64 s.mem).length := by rw [filesOf_len, numsFrom_len]
 obtain ⟨nx, ha, hw, hx, hs, hp⟩ := apply_ok (v := s.v) (e := ⟨filesOf 0 (numsFrom s.v.next (pieces 64 s.mem)), [], s.v.next + (pieces 64 s.mem).length, s.v.next + (pieces 64 s.mem).length + 1, s.seq⟩) hv.good
  (fun f hf => by obtain ⟨f1, f2, f3⟩ := hfo f hf; exact ⟨okAdd_iff.2 ⟨by omega, by omega, by omega⟩, f2, by show f.2 < s.v.next + (pieces 64 s.mem).length + 1; omega⟩)
  (by show ((filesOf 0 (numsFrom s.v.next (pieces 64 s.mem))).map (·.2)).Nodup; rw [filesOf_nums]; exact numsFrom_nodup _ _) (.inl rfl) (by show s.v.next ≤ s.v.next + (pieces 64 s.mem).length + 1; omega) hsq.1 (by show 0 ≤ s.v.next + (pieces 64 s.mem).length; omega)
 obtain ⟨hnx, hnn⟩ := edit_fine hv (by show s.v.files.length + (filesOf 0 (numsFrom s.v.next (pieces 64 s.mem))).length ≤ _; rw [hfl]; omega) (by show s.v.next + (pieces 64 s.mem).length ≤ _; omega) (by show s.v.next + (pieces 64 s.mem).length + 1 ≤ _; omega) (by show s.seq ≤ _; omega) nx ha
 have hF0 : flushM s m mk = flushM s m mk := rfl
 conv at hF0 => rhs; unfold flushM
 simp only at hF0
 rw [if_neg hne] at hF0
 generalize hq : layM m s.v.next (pieces 64 s.mem) = q at l1 l2 l3 l4 hF1 hF0
 obtain ⟨e1, m1⟩ := q
 simp only at l1 l2 l3 l4 hF1 hF0
 subst l1
 obtain ⟨g', v', m2, he, hout⟩ := edit_up (s := s) mk l2 hF1 hg hgl ha hnx ⟨by rw [hx]; show 0 ≤ s.v.next + (pieces 64 s.mem).length + 1; omega, hnn⟩
 rw [he] at hF0
 simp only [ne_eq, not_true_eq_false, if_false] at hF0
 have hi : i64r (s.v.next + (pieces 64 s.mem).length) := ⟨by omega, by omega⟩
 rw [hout.up.open (named_w hi)] at hF0
 simp only [ne_eq, not_true_eq_false, if_false] at hF0
 have hF2 := hF1.edit s ⟨filesOf 0 (numsFrom s.v.next (pieces 64 s.mem)), [], s.v.next + (pieces 64 s.mem).length, s.v.next + (pieces 64 s.mem).length + 1, s.seq⟩ mk (by
  intro nx' hnx'
  rw [ha] at hnx'; cases hnx'
  obtain ⟨h3, h4, h5, h6⟩ := hnx.next_fine hnn
  have := (names_len (n := nx.next) ⟨by omega, by omega⟩).2.2
  exact ⟨by rw [sealB_len]; omega, by omega⟩) (by omega)
 rw [he] at hF2
 obtain ⟨d1, d2, d3⟩ := delete_up hout.up hF2.fb.nd (wName s.v.wal)
 have hd : ¬ ((deleteM m2 (wName s.v.wal)).1 ≠ 0 ∧ (deleteM m2 (wName s.v.wal)).1 ≠ 5) := by rw [d1]; split <;> simp
 rw [if_neg hd] at hF0
 exact ⟨m1, nx, g', v', m2, _, ⟨hq, ha, hp, hw, hx, hs, hout, d3, d2, l3, l4, hF0⟩, (hF2.del (wName s.v.wal)).mono (by omega) (kAd _)⟩
theorem delAll_up {T : Nat} : ∀ (ns : List Bytes) {A : Nat} {m : FSm}, Up m → FT A T m → Up (delAll ns m).2 ∧ (∀ k, k ∉ ns → fget (delAll ns m).2 k = fget m k) ∧ (ns.Nodup → (∀ n ∈ ns, (fget m n).isSome = true) → (delAll ns m).1 = 0) ∧ (delAll ns m).1 ≠ 7
 |[], A, m, h, _ => ⟨h, fun k _ => rfl, fun _ _ => rfl, (by decide : (0 : Int) ≠ 7)⟩
 |n :: ns, A, m, h, hF => by
  obtain ⟨d1, d2, d3⟩ := delete_up h hF.fb.nd n
  unfold delAll
  by_cases hs : (fget m n).isSome = true
  ·rw [if_pos hs] at d1
   rw [if_neg (by rw [d1]; simp)]
   obtain ⟨i1, i2, i3, i4⟩ := delAll_up ns d2 (hF.del n)
   refine ⟨i1, fun k hk => ?_, fun hnd hall => i3 (kBq.1 hnd).2 fun x hx => ?_, i4⟩
   ·rw [kAf, not_or] at hk
    rw [i2 k hk.2, d3, if_neg hk.1]
   ·rw [d3, if_neg (fun e : x = n => (kBq.1 hnd).1 (e ▸ hx))]
    exact hall x (by simp [hx])
  ·rw [if_neg hs] at d1
   rw [if_pos (by rw [d1]; simp)]
   refine ⟨d2, fun k hk => ?_, fun hnd hall => absurd (hall n (by simp)) hs, by rw [d1]; decide⟩
   rw [kAf, not_or] at hk
   rw [d3, if_neg hk.1]
structure CoOut (s : StM) (m : FSm) (es : List EntM) (mk : List (Int × List EntM)) (g : LogM) (m1 : FSm) (nx : VM) (g' : LogM) (v' : VM) (m2 m3 : FSm) : Prop where
 lay : layM m s.v.next (pieces 64 es) = (0, m1)
 app : applyM s.v ⟨filesOf 1 (numsFrom s.v.next (pieces 64 es)), s.v.files.map (·.2), s.v.wal, s.v.next + (pieces 64 es).length, s.v.seq⟩ = some nx
 files : nx.files.Perm (filesOf 1 (numsFrom s.v.next (pieces 64 es)))
 wal : nx.wal = s.v.wal
 next : nx.next = s.v.next + (pieces 64 es).length
 seq : nx.seq = s.v.seq
 ed : EdOut m1 g ⟨filesOf 1 (numsFrom s.v.next (pieces 64 es)), s.v.files.map (·.2), s.v.wal, s.v.next + (pieces 64 es).length, s.v.seq⟩ nx g' v' m2
 del : ∀ k, k ∉ (s.v.files.map (·.2)).map tName → fget m3 k = fget m2 k
 ret : ((s.v.files.map (·.2)).map tName).Nodup → (∀ n ∈ (s.v.files.map (·.2)).map tName, (fget m2 n).isSome = true) → (delAll ((s.v.files.map (·.2)).map tName) m2).1 = 0
 r7 : (delAll ((s.v.files.map (·.2)).map tName) m2).1 ≠ 7
 up : Up m3
 same : ∀ k, (∀ i, s.v.next ≤ i → i < s.v.next + (pieces 64 es).length → k ≠ tName i) → fget m1 k = fget m k
 laid : ∀ x ∈ numsFrom s.v.next (pieces 64 es), fget m1 (tName x.1) = some (tableB x.2, (tableB x.2).length)
 out : compactM s m es mk = ((delAll ((s.v.files.map (·.2)).map tName) m2).1, { s with list := some g', v := v', tabs := tabsWith s.tabs mk (s.v.files.map (·.2)) }, m3)
theorem compact_up {A T N : Nat} {s : StM} {m : FSm} {g : LogM} {es : List EntM} (mk : List (Int × List EntM)) (h : Up m) (hF : FT A T m) (hT : 536870912 ≤ T ∧ T + 65544 ≤ 1099511627776) (hg : s.list = some g) (hgl : GoodLg g N) (hv : GoodV s.v) (h1 : 1 ≤ s.v.next) (hn : s.v.next ≤ 1152921504606846976) (hvn : s.v.files.length ≤ 4194304) (hvw : s.v.wal ≤ 1152921504606846976) (hvs : s.v.seq ≤ 1152921504606846976)
  (hm : MemF es) (hne : s.v.files ≠ []) :
  ∃ m1 nx g' v' m2 m3, CoOut s m es mk g m1 nx g' v' m2 m3 ∧ FT (A + 3 * es.length + s.v.files.length + 8) (T + 65544) m3 := by
 have hcs := pieces_cnt 64 es (by omega)
 have hmn := hm.num
 obtain ⟨l1, l2, l3, l4⟩ := lay_up ⟨by omega, by omega⟩ (pieces 64 es) s.v.next h hF hm.tab (by omega) (by omega)
 have hF1 := FT.lay ⟨by omega, by omega⟩ (pieces 64 es) s.v.next hF hm.tab
 have hfo := filesOf_mem 1 (pieces 64 es) s.v.next
 have hfl : (filesOf 1 (numsFrom s.v.next (pieces 64 es))).length = (pieces 64 es).length := by rw [filesOf_len, numsFrom_len]
 have hgn : s.v.files.map (·.2) ≠ [] := by simpa using hne
 obtain ⟨nx, ha, hw, hx, hs, hp⟩ := apply_ok (v := s.v) (e := ⟨filesOf 1 (numsFrom s.v.next (pieces 64 es)), s.v.files.map (·.2), s.v.wal, s.v.next + (pieces 64 es).length, s.v.seq⟩) hv.good
  (fun f hf => by obtain ⟨f1, f2, f3⟩ := hfo f hf; exact ⟨okAdd_iff.2 ⟨by omega, by omega, by omega⟩, f2, f3⟩)
  (by show ((filesOf 1 (numsFrom s.v.next (pieces 64 es))).map (·.2)).Nodup; rw [filesOf_nums]; exact numsFrom_nodup _ _) (.inr rfl) (by show s.v.next ≤ s.v.next + (pieces 64 es).length; omega) (kCb _) hv.good.nn.1
 rw [if_neg hgn, kBj] at hp
 obtain ⟨hnx, hnn⟩ := edit_fine hv (by show s.v.files.length + (filesOf 1 (numsFrom s.v.next (pieces 64 es))).length ≤ _; rw [hfl]; omega) (by show s.v.wal ≤ _; omega) (by show s.v.next + (pieces 64 es).length ≤ _; omega) (by show s.v.seq ≤ _; omega) nx ha
 have hF0 : compactM s m es mk = compactM s m es mk := rfl
 conv at hF0 => rhs; unfold compactM
 simp only at hF0
 rw [if_neg hne] at hF0
 generalize hq : layM m s.v.next (pieces 64 es) = q at l1 l2 l3 l4 hF1 hF0
 obtain ⟨e1, m1⟩ := q
 simp only at l1 l2 l3 l4 hF1 hF0
 subst l1
 obtain ⟨g', v', m2, he, hout⟩ := edit_up (s := s) mk l2 hF1 hg hgl ha hnx ⟨by rw [hx]; show 0 ≤ s.v.next + (pieces 64 es).length; omega, hnn⟩
 rw [he] at hF0
 simp only [ne_eq, not_true_eq_false, if_false] at hF0
 have hF2 := hF1.edit s ⟨filesOf 1 (numsFrom s.v.next (pieces 64 es)), s.v.files.map (·.2), s.v.wal, s.v.next + (pieces 64 es).length, s.v.seq⟩ mk (by
  intro nx' hnx'
  rw [ha] at hnx'; cases hnx'
  obtain ⟨h3, h4, h5, h6⟩ := hnx.next_fine hnn
  have := (names_len (n := nx.next) ⟨by omega, by omega⟩).2.2
  exact ⟨by rw [sealB_len]; omega, by omega⟩) (by omega)
 rw [he] at hF2
 obtain ⟨d1, d2, d3, d4⟩ := delAll_up ((s.v.files.map (·.2)).map tName) hout.up hF2
 have hF3 := FT.delAll ((s.v.files.map (·.2)).map tName) hF2
 simp only [kAv] at hF3
 exact ⟨m1, nx, g', v', m2, _, ⟨hq, ha, hp, hw, hx, hs, hout, d2, d3, d4, d1, l3, l4, hF0⟩, hF3.mono (by omega) (kAd _)⟩
/-! ## The tables -/
theorem putAll_new {α : Type} : ∀ (mk t : List (Int × α)), (mk.map (·.1)).Nodup → (∀ n ∈ mk.map (·.1), n ∉ t.map (·.1)) → putAll t mk = t ++ mk
 |[], t, _, _ => by simp [putAll]
 |x :: mk, t, h1, h2 => by
  rw [kAh, kBq] at h1
  have e : putAll t (x :: mk) = putAll (kput x.1 x.2 t) mk := rfl
  rw [e, kput_new (h2 x.1 (by simp)), putAll_new mk _ h1.2 fun n hn hn2 => ?_]
  ·simp
  ·rw [kAi, kAl] at hn2
   rcases hn2 with hn2 | hn2
   ·exact h2 n (by simp [hn]) hn2
   ·simp at hn2; subst hn2; exact h1.1 hn
theorem delNs_keys {α : Type} : ∀ (ns : List Int) (t : List (Int × α)), (t.map (·.1)).Nodup → delNs t ns = t.filter fun x => decide (x.1 ∉ ns)
 |[], t, _ => by
  show t = _
  symm
  exact List.filter_eq_self.2 fun a _ => by simp
 |n :: ns, t, h => by
  have e : delNs t (n :: ns) = delNs (kdel n t) ns := rfl
  have hk : kdel n t = t.filter fun x => decide (x.1 ≠ n) := by
   clear e
   induction t with
   |nil => rfl
   |cons y t ih =>
    rw [kAh, kBq] at h
    unfold kdel
    by_cases hy : y.1 = n
    ·rw [if_pos hy.symm, List.filter_cons, if_neg (by simp [hy])]
     symm
     rw [List.filter_eq_self]
     intro a ha
     refine decide_eq_true fun e => h.1 ?_
     rw [hy, ← e]
     exact kAw ha
    ·rw [if_neg (fun e => hy e.symm), List.filter_cons, if_pos (by simp [hy]), ih h.2]
  rw [e, delNs_keys ns _ (kdel_nodup h), hk, List.filter_filter]
  congr 1
  funext x
  by_cases h1 : x.1 = n <;> by_cases h2 : x.1 ∈ ns <;> simp [h1, h2]
theorem tabs_flush {t mk : List (Int × List EntM)} (h1 : (mk.map (·.1)).Nodup) (h2 : ∀ n ∈ mk.map (·.1), n ∉ t.map (·.1)) : tabsWith t mk [] = t ++ mk := putAll_new mk t h1 h2
theorem tabs_compact {t mk : List (Int × List EntM)} {ns : List Int} (ht : (t.map (·.1)).Nodup) (h1 : (mk.map (·.1)).Nodup) (h2 : ∀ n ∈ mk.map (·.1), n ∉ t.map (·.1)) (hp : ns.Perm (t.map (·.1))) : tabsWith t mk ns = mk := by
 unfold tabsWith
 rw [putAll_new mk t h1 h2, delNs_keys _ _ (by rw [kAi, kBw]; exact ⟨ht, h1, fun a ha b hb e => h2 b hb (e ▸ ha)⟩), kDh]
 rw [List.filter_eq_nil_iff.2 fun x hx => ?_, List.filter_eq_self.2 fun x hx => ?_, kBj]
 ·refine decide_eq_true fun h => h2 x.1 (kAw hx) (hp.mem_iff.1 h)
 ·simp only [decide_not, Bool.not_eq_true', decide_eq_false_iff_not, Decidable.not_not]
  exact hp.mem_iff.2 (kAw hx)
structure COI where
 k : Nat
 a : Option Addr
 c : Nat
 b : Option Addr
 d : Nat
theorem coIn1 (X C C2 Y Z : Heap) : (C2 ++ (X ++ (C ++ (Y ++ Z)))).Perm (X ++ ((C ++ C2) ++ (Y ++ Z))) := by
 classical
 refine kDf.2 fun a => ?_
 simp only [kCl, kDa]
 omega
theorem coIn3 (p : Nat × Obj) (Y F Z : Heap) : (Y ++ (p :: (F ++ Z))).Perm (F ++ (Y ++ (p :: Z))) := by
 classical
 refine kDf.2 fun a => ?_
 simp only [kCl, kDa]
 omega
def CoPost (sb f : Nat) (s : StM) (m : FSm) (w : World) (T0 : List Nat) (v : Value) (w' : World) : Prop := ∃ r seen mk, r.Perm (tabsE s) ∧ Rise r ∧ seen.Perm (seenS s) ∧ mk.Perm (numsFrom s.v.next (pieces 64 (trimE seen r))) ∧ v = .int .i64 (compactM s m (trimE seen r) mk).1 ∧
 ∃ L', StO sb f (compactM s m (trimE seen r) mk).2.1 (compactM s m (trimE seen r) mk).2.2 L' ∧ St w T0 L' w'
def CoFin (sb f : Nat) (s : StM) (m : FSm) (w : World) (T0 : List Nat) (es : List EntM) : Prop := ∀ (mk : List (Int × List EntM)) (e : Int) (L' : Heap) (w' : World) (q : Int × StM × FSm), mk.Perm (numsFrom s.v.next (pieces 64 es)) → compactM s m es mk = q → e = q.1 → StO sb f q.2.1 q.2.2 L' → St w T0 L' w' → CoPost sb f s m w T0 (.int .i64 e) w'
theorem CoFin.of {sb f : Nat} {s : StM} {m : FSm} {w : World} {T0 : List Nat} {r : List EntM} {seen : List Int} (h1 : r.Perm (tabsE s)) (h2 : Rise r) (h3 : seen.Perm (seenS s)) : CoFin sb f s m w T0 (trimE seen r) := by
 intro mk e L' w' q h4 h5 h6 h7 h8
 subst h5
 exact ⟨r, seen, mk, h1, h2, h3, h4, congrArg _ h6, L', h7, h8⟩
set_option maxRecDepth 8000 in
set_option maxHeartbeats 16000000 in
theorem Scompact_spec {w : World} {sb f A T : Nat} {s : StM} {m : FSm} {L : Heap} (hO : StO sb f s m L) (hh : Holds L w) (hG : Glob w (keys L)) (hW : SWr A T s m) (hC : SCo s) :
  Cl Tryz.prog f_store_Store_compact [ptr sb] w fun v w' => CoPost sb f s m w (keys L) v w' := by
 have hS := St.enter hh
 have hvn := hW.gv.good.nn
 have hvx := hW.next
 have hsq := hW.seq
 have hwl := hW.gv.wal
 have hac := hW.acts
 have hvf := hW.vnum
 have hone := hC.one
 have hnum := hC.num
 obtain ⟨af, cf, hfp⟩ := hO.fileP
 obtain ⟨tm, et, ct, ks, hks, hnd, htp⟩ := hO.tabP
 have hfm : ∀ fl ∈ s.v.files, ∃ l, (fl.2, l) ∈ s.tabs := fun fl hfl => by
  have h1 : fl.2 ∈ s.tabs.map (·.1) := hC.files.mem_iff.1 (kAw hfl)
  obtain ⟨y, hy, hyn⟩ := kAm.1 h1
  exact ⟨y.2, by rw [← hyn]; exact hy⟩
 have hcl := filesC_len s.v.files
 have hpm : (s.v.files.map fun fl => tabL s.tabs fl.2).flatten.Perm (tabsE s) := by
  have := tabs_flat (ns := s.v.files.map (·.2)) hnd hC.files
  rwa [kBz] at this
 generalize hT : keys L = T0 at hS hG ⊢
 refine en_store_Store_compact rfl ?_
 (repeat (refine jt ⟨?_⟩; refine hS.st rfl rfl ?_; intro _ hS)); refine jt ⟨?_⟩
 refine ldAt (hfp _ hS.holds).1 ?_
 (repeat (refine jt ⟨?_⟩; refine hS.st rfl rfl ?_; intro _ hS)); refine jt ⟨?_⟩
 by_cases hf0 : s.v.files = []
 ·have hl0 : s.v.files.length = 0 := by rw [hf0]; rfl
  obtain ⟨r, hrp, hrr⟩ : ∃ r, r.Perm (tabsE s) ∧ Rise r := by
   have : s.tabs = [] := by
    have := hC.files.length_eq
    simp only [kAv] at this
    exact kCu (by omega)
   exact ⟨[], by unfold tabsE; rw [this]; simp, .nil⟩
  have hM : ∀ mk, compactM s m (trimE (seenS s) r) mk = (0, s, m) := fun mk => by unfold compactM; rw [if_pos hf0]
  (repeat (refine jt ⟨?_⟩; refine hS.st rfl rfl ?_; intro _ hS)); refine jt ⟨?_⟩
  exact CoFin.of hrp hrr (.refl _) _ _ L _ _ (.refl _) (hM _) rfl hO hS
 ·have hl0 : 0 < s.v.files.length := List.length_pos_iff.2 hf0
  have hFM : ∀ es mk, compactM s m es mk = _ := fun es mk => by unfold compactM; rw [if_neg hf0]
  simp only at hFM
  (repeat (refine jt ⟨?_⟩; refine hS.st rfl rfl ?_; intro _ hS)); refine jt ⟨?_⟩
  refine ldAt (hfp _ hS.holds).1 ?_
  (repeat (refine jt ⟨?_⟩; refine hS.st rfl rfl ?_; intro _ hS)); refine jt ⟨?_⟩
  refine SemW.loop (fun z : COI => [(0, ptr sb), (2, .int .i64 0), (3, .slice z.a z.k z.c), (4, .slice z.b z.k z.d), (26, .slice af s.v.files.length cf), (27, .int .i64 s.v.files.length), (28, .int .i64 z.k)])
   (fun z w' => z.k ≤ s.v.files.length ∧ ∃ xs Lx Lc Ly, Vec T_Sl_api_Entry 1 z.a z.k z.c xs Lx ∧ LsO xs ((s.v.files.take z.k).map fun fl => tabL s.tabs fl.2) Lc ∧ Vec T_int 1 z.b z.k z.d (((s.v.files.take z.k).map (·.2)).map intV) Ly ∧ St w T0 (Lx ++ (Lc ++ (Ly ++ L))) w') (fun z => s.v.files.length - z.k) ⟨0, none, 0, none, 0⟩
   ⟨rfl, rfl, rfl, rfl, rfl, rfl, rfl, trivial⟩ ⟨kAg _, [], [], [], [], Vec.nil, .nil, Vec.nil, hS⟩ ?_
  clear hS
  rintro ⟨k, a9, c9, ag, cg⟩ w2 ⟨hk, xs, Lx, Lc, Ly, hV, hLs, hVg, hS⟩
  simp only at hk hV hLs hVg hS ⊢
  by_cases hkl : k < s.v.files.length
  ·have hfa := (hfp _ (hS.part (L := L))).2
   obtain ⟨g, off, rfl⟩ := hfa.pos (by omega)
   have hat := hfa.at hkl
   have hmem : s.v.files[k] ∈ s.v.files := kAx hkl
   obtain ⟨l, hl⟩ := hfm _ hmem
   have htf : TabF l := hC.tab _ hl
   have hsucc : (s.v.files.take (k + 1)).map (fun fl => tabL s.tabs fl.2) = (s.v.files.take k).map (fun fl => tabL s.tabs fl.2) ++ [l] := by
    rw [kAn hkl, kAi, kAh, kC]
    unfold tabL
    rw [kget_of_mem hnd hl]; rfl
   have hsucc2 : ((s.v.files.take (k + 1)).map (·.2)).map intV = ((s.v.files.take k).map (·.2)).map intV ++ [intV s.v.files[k].2] := by
    rw [kAn hkl, kAi, kAi]; rfl
   obtain ⟨tb, htb, -⟩ := (htp _ (hS.part (L := L))).2.2 _ _ hl
   generalize s.v.files[k] = fl at hat hmem hl hsucc2 htb
   (repeat (refine jt ⟨?_⟩; refine hS.st rfl rfl ?_; intro _ hS)); refine jt ⟨?_⟩
   refine Arr.ldn (St.start w2) hfa.arr rfl (k := k * 2) hat rfl ?_
   unfold fileC
   (repeat (refine jt ⟨?_⟩; refine hS.st rfl rfl ?_; intro _ hS)); refine jt ⟨?_⟩
   refine hS.al ?_
   intro b6 w3 _ hS
   (repeat (refine jt ⟨?_⟩; refine hS.st rfl rfl ?_; intro _ hS)); refine jt ⟨?_⟩
   refine SemW.draw tblOk mixed (fun w' => St w T0 ((b6, .cells ⟨[.int .i64 fl.1, .int .i64 fl.2]⟩ T_api_File (0, 0)) :: (Lx ++ (Lc ++ (Ly ++ L)))) w') [10, 11] [0, 1, 2, 3, 4, 5, 6, 7, 8, 9, 10, 11] (by kernel_rfl) hS.drew ?_
   have hS := hS.drew
   refine jr ⟨?_⟩
   refine ldAll (fun w' h => (htp w' (h.part (L := L))).1) ?_
   refine jr ⟨?_⟩
   refine lookupMap tblOk KEnc.i64 rfl rfl und_int rfl (kvs := ks) (fun w' hw' => ⟨et, ct, (htp w' (hw'.part (L := L))).2.1, hks.of⟩) ?_
   simp only [htb, kD, kBu]
   refine jr ⟨?_⟩
   obtain ⟨tb2, htb2, aT, cT, nbT, hTR⟩ := (htp _ (hS.part (L := L))).2.2 _ _ hl
   rw [htb] at htb2
   cases htb2
   refine Cl.mono (All_T hTR (by have := htf.len; omega)) ?_
   rintro _ w4 ⟨a2, c2, L2, rfl, hv2, hS'⟩
   have hS := hS.callNew hS'
   refine Chk.mk (hS.sub (kAj _ _)) ?_
   have hll := htf.len
   have hLs2 := hLs.snoc hv2
   rw [← hsucc] at hLs2
   refine jr ⟨?_⟩
   refine hS.al ?_
   intro b41 w5 _ hS
   refine Chk.mk (hS.sub (.cons _ (kAj _ _))) ?_
   refine jr ⟨?_⟩
   refine St.app (sz := 1) (m := 1) tblOk rfl rfl rfl rfl hS hV (news := [.slice a2 l.length c2]) rfl (by have := hS.arr (b := b41) (T' := []) (by simp); exact this) rfl (by show (_ + _) * 24 ≤ _; omega) (by omega) ?_
   intro a3 c3 Lx2 w6 hV3 hS
   refine jr ⟨?_⟩
   (repeat (refine jt ⟨?_⟩; refine hS.st rfl rfl ?_; intro _ hS)); refine jt ⟨?_⟩
   refine hS.al ?_
   intro b46 w7 _ hS
   (repeat (refine jt ⟨?_⟩; refine hS.st rfl rfl ?_; intro _ hS)); refine jt ⟨?_⟩
   refine St.app (sz := 1) (m := 1) tblOk rfl rfl rfl rfl hS hVg (news := [intV fl.2]) rfl (by have := hS.arr (b := b46) (T' := []) (by simp); exact this) rfl (by show (_ + _) * 8 ≤ _; omega) (by omega) ?_
   intro ag2 cg2 Ly2 w8 hVg2 hS
   (repeat (refine jt ⟨?_⟩; refine hS.st rfl rfl ?_; intro _ hS)); refine jt ⟨?_⟩
   have hS := hS.sub (.cons _ (.cons _ ((List.Sublist.refl L2).append (kAb _ _))))
   exact ⟨⟨k + 1, a3, c3, ag2, cg2⟩, ⟨rfl, rfl, rfl, rfl, rfl, rfl, rfl, trivial⟩, ⟨hkl, _, Lx2, _, Ly2, hV3, hLs2, by rw [hsucc2]; exact hVg2, St.perm hS (coIn1 Lx2 Lc L2 Ly2 L)⟩, by simp only; omega⟩
  ·have hke : k = s.v.files.length := by omega
   subst hke
   rw [kAr] at hLs hVg
   have hfl : (s.v.files.map fun fl => tabL s.tabs fl.2).length = s.v.files.length := by simp
   have hgl : (s.v.files.map (·.2)).length = s.v.files.length := by simp
   have hLI : ∀ {w : World}, Holds Lc w → LsIn w xs (s.v.files.map fun fl => tabL s.tabs fl.2) := fun h => hLs.at h
   obtain ⟨sq, es, c, hsqM, hsp⟩ := hO.seqP
   (repeat (refine jt ⟨?_⟩; refine hS.st rfl rfl ?_; intro _ hS)); refine jt ⟨?_⟩
   refine ldAt (hsp _ (hS.part (L := L))).1 ?_
   (repeat (refine jt ⟨?_⟩; refine hS.st rfl rfl ?_; intro _ hS)); refine jt ⟨?_⟩
   refine Cl.mono Values_spec ?_
   rintro _ w3 ⟨b1, rfl, hS'⟩
   have hS := hS.callNew hS'
   (repeat (refine jt ⟨?_⟩; refine hS.st rfl rfl ?_; intro _ hS)); refine jt ⟨?_⟩
   refine Cl.mono (CollV_spec hsqM (hsp _ (hS.part (L := L))).2 (hS.cell (b := b1) (off := 0) rfl) hC.seqs) ?_
   rintro _ w4 ⟨dn, hdp, asn, csn, Ls, rfl, hvs, hS'⟩
   have hS := hS.callNew hS'
   have hseen : (dn.map (·.2)).Perm (seenS s) := hdp.map _
   have hdl := hdp.length_eq
   have hdl2 := hC.seqs
   have hsl : (dn.map (·.2)).length = dn.length := by simp
   have hS : St w T0 (Ls ++ (Lx ++ (Lc ++ (Ly ++ L)))) w4 := hS.sub ((List.Sublist.refl Ls).append (kAj [(b1, _)] _))
   have hmg := fun (w : World) (h1 : Arr w [] a9 xs) (h2 : LsIn w xs (s.v.files.map fun fl => tabL s.tabs fl.2)) => Merge_spec (c := c9) h1 h2 (by omega) (by have := hpm.length_eq; omega) (hone.perm hpm.symm)
   have htrm := fun (w : World) (a : Option Addr) (c : Nat) (l : List EntM) (h1 : Arr w [] a (l.flatMap entC)) (h2 : l.length ≤ c) (h3 : l.length ≤ 16777216) (h4 : OneE l) (h5 : Arr w [] asn ((dn.map (·.2)).map intV)) => Trim_spec (d := csn) h1 h2 h3 h4 h5 (by omega)
   simp only [hfl] at hmg
   simp only [hsl] at htrm
   (repeat (refine jt ⟨?_⟩; refine hS.st rfl rfl ?_; intro _ hS)); refine jt ⟨?_⟩
   refine SemW.draw tblOk mixed (fun w' => St w T0 (Ls ++ (Lx ++ (Lc ++ (Ly ++ L)))) w') [10, 11, 12, 13, 14, 15, 16, 17] [0, 1, 2, 3, 4, 5, 6, 8, 7, 9, 10, 11, 12, 13, 14, 15, 16, 17] (by kernel_rfl) hS.drew ?_
   have hS := hS.drew
   refine jr ⟨?_⟩
   refine ldAll (fun w' h => hO.nextC (h.part (L := L))) ?_
   refine jr ⟨?_⟩
   refine Cl.mono (hmg _ (hV.arr hS (by simp)) (hLs.at (hS.part (L := Lc)))) ?_
   rintro _ w5 ⟨r, ar, cr, Lr, hrp, hrr, rfl, hvr, hS'⟩
   have hS := hS.callNew hS'
   refine Chk.mk (hS.sub (kAj _ _)) ?_
   have hrp1 := hrp.trans hpm
   have hrl := hrp1.length_eq
   refine jr ⟨?_⟩
   refine Cl.mono (htrm _ ar cr r (hvr.arr hS (by simp)) hvr.cap (by omega) (hone.perm hrp1.symm) (hvs.arr hS (by simp))) ?_
   rintro _ w6 ⟨r2, a2, c2, L2, hrp2, hrr2, rfl, hv2, hS'⟩
   have hS := hS.callNew hS'
   have hS := hS.sub ((List.Sublist.refl L2).append (kAj Lr _))
   refine Chk.mk (hS.sub (kAj _ _)) ?_
   have hrp3 := hrp2.trans hrp1
   have hME := hC.mem hrp3 hrr2 (dn.map (·.2))
   have hfin : CoFin sb f s m w T0 (trimE (dn.map (·.2)) r2) := CoFin.of hrp3 hrr2 hseen
   have hFM2 := hFM (trimE (dn.map (·.2)) r2)
   clear hFM
   generalize trimE (dn.map (·.2)) r2 = es at hME hfin hFM2 hv2 hS ⊢
   have hen := hME.num
   have hpc := pieces_cnt 64 es (by omega)
   refine jr ⟨?_⟩
   have hG1 : Glob _ (keys L) := (hG.step hS).sub fun b hb => by unfold keys at hb ⊢; simp only [kAi, kAl]; exact .inr (.inr (.inr (.inr (.inr hb))))
   refine Cl.mono (hO.lay (hS.part (L := L)) hG1 1 s.v.next (by omega) (hv2.arr hS (T' := keys L) hS.disj) hv2.cap (by omega) hME.tab hW.ft.fb (by omega)) ?_
   have hF1 := hW.ft.lay (T := T) ⟨by have := hW.lo; omega, by have := hW.hi; omega⟩ (pieces 64 es) s.v.next hME.tab
   rintro _ w7 (⟨h1, rfl, L3, hO3, hS'⟩ | ⟨h1, a3, c3, Lf, tm3, et3, ct3, ks3, Lt, L3, rfl, hvf3, hmc, hto, hO3, hS'⟩)
   ·have hS := hS.call (L := L) hS'
    have hM : ∀ mk, compactM s m es mk = _ := fun mk => (hFM2 mk).trans (if_pos h1)
    generalize layM m s.v.next (pieces 64 es) = ly at h1 hO3 hM ⊢
    (repeat (refine jt ⟨?_⟩; refine hS.st rfl rfl ?_; intro _ hS)); refine jt ⟨?_⟩
    refine hfin _ _ L3 _ _ (.refl _) (hM _) rfl hO3 (hS.sub ?_)
    exact (kAj Ly _).trans ((kAj Lc _).trans ((kAj Lx _).trans ((kAj Ls _).trans (kAj L2 _))))
   ·have hS := hS.call (L := L) hS'
    have hM : ∀ mk, compactM s m es mk = _ := fun mk => (hFM2 mk).trans (if_neg (fun h => h h1))
    clear hFM2
    generalize layM m s.v.next (pieces 64 es) = ly at h1 hO3 hM hF1 ⊢
    obtain ⟨e1, m1⟩ := ly
    simp only at h1 hO3 hM hF1
    subst h1
    have hfl3 := filesOf_len 1 (numsFrom s.v.next (pieces 64 es))
    rw [numsFrom_len] at hfl3
    simp only [← hfl3] at hM
    have hfo := filesOf_mem 1 (pieces 64 es) s.v.next
    generalize hmd : numsFrom s.v.next (pieces 64 es) = made at hvf3 hto hM hfl3 hfo hfin ⊢
    generalize hfs : filesOf 1 made = fs at hvf3 hM hfl3 hfo ⊢
    have hS := hS.sub ((kAj Lc _).trans ((kAj Lx _).trans ((kAj Ls _).trans (kAj L2 _))))
    obtain ⟨gone, hgone⟩ : ∃ gone, s.v.files.map (·.2) = gone := ⟨_, rfl⟩
    have hgr : ∀ n ∈ gone, 0 ≤ n ∧ n ≤ 2305843009213693952 := fun n hn => by
     rw [← hgone] at hn
     obtain ⟨fl, hfl, rfl⟩ := kAm.1 hn
     have h1 := hW.gv.good.files.1 fl hfl
     have h2 := okAdd_iff.1 h1.1
     omega
    rw [hgone] at hgl hVg
    simp only [hgone] at hM
    (repeat (refine jt ⟨?_⟩; refine hS.st rfl rfl ?_; intro _ hS)); refine jt ⟨?_⟩
    rw [← hgl] at hVg ⊢
    have hvn0 := hgl
    refine SemW.draw tblOk mixed (fun w' => St w T0 (Ly ++ ((tm3, .map et3 ct3) :: (Lf ++ (Lt ++ L3)))) w') [23, 24] [0, 1, 2, 3, 4, 5, 6, 7, 8, 9, 10, 11, 12, 13, 14, 15, 16, 17, 18, 19, 20, 21, 22, 23, 24] (by kernel_rfl) hS.drew ?_
    have hS := hS.drew
    refine jr ⟨?_⟩
    refine ldAll (fun w' h => hO3.walC (h.part (L := L3))) ?_
    refine jr ⟨?_⟩
    refine ldAll (fun w' h => hO3.nextC (h.part (L := L3))) ?_
    refine jr ⟨?_⟩
    refine ldAll (fun w' h => hO3.vseqC (h.part (L := L3))) ?_
    refine jr ⟨?_⟩
    have hS := St.perm hS (coIn3 _ Ly Lf _)
    obtain ⟨g, hg, hgn⟩ := hW.list
    have hTl := hW.lo
    have hTh := hW.hi
    have hvs2 := hW.gv.seq
    have hef := edit_fine hW.gv (e := ⟨fs, gone, s.v.wal, s.v.next + fs.length, s.v.seq⟩) (by show s.v.files.length + fs.length ≤ _; omega) (by show s.v.wal ≤ _; omega) (by show s.v.next + (fs.length : Int) ≤ _; omega) (by show s.v.seq ≤ _; omega)
    have hok : OkE ⟨fs, gone, s.v.wal, s.v.next + fs.length, s.v.seq⟩ := ⟨fun fl hf => by
     have := hfo fl hf
     exact ⟨i64ok_of (by omega), i64ok_of (by omega)⟩, fun n hn => i64ok_of (by have := hgr n hn; omega), i64ok_of (by show 0 ≤ s.v.wal ∧ s.v.wal ≤ _; omega), i64ok_of (by show 0 ≤ s.v.next + (fs.length : Int) ∧ s.v.next + (fs.length : Int) ≤ _; omega), i64ok_of (by show 0 ≤ s.v.seq ∧ s.v.seq ≤ _; omega)⟩
    have hG2 : Glob _ (keys ((tm3, .map et3 ct3) :: (Lt ++ L3))) := (hG.step hS).sub fun b hb => by unfold keys at hb ⊢; rw [kAi, kAi]; exact kBp _ (kBp _ hb)
    refine Cl.mono (Sedit_spec (e := ⟨fs, gone, s.v.wal, s.v.next + fs.length, s.v.seq⟩) hO3 hmc hto (hS.part (L := (tm3, .map et3 ct3) :: (Lt ++ L3))) hG2 (hvf3.arr hS (T' := keys ((tm3, .map et3 ct3) :: (Lt ++ L3))) hS.disj) hvf3.cap
     (hVg.arr hS (T' := keys ((tm3, .map et3 ct3) :: (Lt ++ L3))) (hS.sub (kAj _ _)).disj) hVg.cap (by show fs.length + gone.length ≤ _; omega)
     (by show -9223372036854775808 ≤ s.v.wal ∧ s.v.wal ≤ _ ∧ -9223372036854775808 ≤ s.v.next + (fs.length : Int) ∧ s.v.next + (fs.length : Int) ≤ _ ∧ _ ≤ s.v.seq ∧ s.v.seq ≤ _; omega) hok
     (fun nx hnx => by
      obtain ⟨h1, h2⟩ := hef nx hnx
      obtain ⟨h3, h4, h5, h6⟩ := h1.next_fine h2
      exact ⟨h3, h4, by omega, h6⟩) hg (by omega) (by show s.v.files.length + fs.length ≤ _; omega) hF1.fb (by omega)) ?_
    rintro _ w8 ⟨mk, hmk, rfl, L4, hO4, hS'⟩
    have hS := (hS.call (L := (tm3, .map et3 ct3) :: (Lt ++ L3)) hS').sub (kAj _ _)
    have hF2 := hF1.edit s ⟨fs, gone, s.v.wal, s.v.next + fs.length, s.v.seq⟩ mk (fun nx hnx => by
      obtain ⟨h1, h2⟩ := hef nx hnx
      obtain ⟨h3, h4, h5, h6⟩ := h1.next_fine h2
      have := (names_len (n := nx.next) ⟨by omega, by omega⟩).2.2
      exact ⟨by rw [sealB_len]; omega, by omega⟩) (by omega)
    have hM := hM mk
    generalize editM s m1 ⟨fs, gone, s.v.wal, s.v.next + fs.length, s.v.seq⟩ mk = q at hO4 hM hF2 ⊢
    obtain ⟨e2, s2, m2⟩ := q
    simp only at hO4 hM hF2 ⊢
    by_cases he2 : e2 = 0
    ·subst he2
     rw [if_neg (by simp)] at hM
     (repeat (refine jt ⟨?_⟩; refine hS.st rfl rfl ?_; intro _ hS)); refine jt ⟨?_⟩
     refine SemW.loop (fun k : Nat => [(0, ptr sb), (101, .slice ag gone.length cg), (102, .int .i64 gone.length), (103, .int .i64 k)])
      (fun k w' => k ≤ gone.length ∧ ∃ mi L5, delAll (gone.map tName) m2 = delAll ((gone.map tName).drop k) mi ∧ FB (A + 3 * (pieces 64 es).length + 7 + k) mi ∧ StO sb f s2 mi L5 ∧ St w T0 (Ly ++ L5) w') (fun k => gone.length - k) 0
      ⟨rfl, rfl, rfl, rfl, trivial⟩ ⟨kAg _, m2, L4, by rw [List.drop_zero], hF2.fb, hO4, hS⟩ ?_
     clear hS hS'
     rintro k w9 ⟨hk, mi, L5, hdl5, hBi, hO5, hS⟩
     by_cases hkl : k < gone.length
     ·obtain ⟨gg, tg, rfl, -, -, -, rfl⟩ : ∃ g l', ag = some ⟨g, 0, none⟩ ∧ (gone.map intV).length = gone.length * 1 ∧ (gone.map intV).length + l'.length = cg * 1 ∧ gone.length ≤ cg ∧ Ly = [(g, .cells ⟨gone.map intV ++ l'⟩ T_int (0, 0))] := by
       rcases hVg.inv with ⟨_, h, _⟩ | h
       ·omega
       ·exact h
      have hget : (gone.map intV ++ tg)[k]? = some (intV gone[k]) := by
       rw [kAz (by rw [kAv]; exact hkl)]; simp [hkl]
      have hstep := delAll_step hdl5 (by simpa using hkl)
      rw [kCp] at hstep
      have hnr := hgr _ (kAx hkl)
      generalize gone[k] = n at hget hstep hnr
      (repeat (refine jt ⟨?_⟩; refine hS.st rfl rfl ?_; intro _ hS)); refine jt ⟨?_⟩
      refine hS.ld (v := intV n) (by rw [show 0 + (k : Int).toNat * 1 = k by omega]; exact hget) ?_
      (repeat (refine jt ⟨?_⟩; refine hS.st rfl rfl ?_; intro _ hS)); refine jt ⟨?_⟩
      refine SemW.draw tblOk mixed (fun w' => St w T0 ([(gg, .cells ⟨gone.map intV ++ tg⟩ T_int (0, 0))] ++ L5) w') [6, 7] [0, 1, 2, 3, 4, 5, 6, 7] (by kernel_rfl) hS.drew ?_
      have hS := hS.drew
      refine jr ⟨?_⟩
      refine ldAll (fun w' h => hO5.fC (h.part (L := L5))) ?_
      refine jr ⟨?_⟩
      refine Cl.mono (Table_spec (n := n) ⟨by omega, by omega⟩ (hG.keep hS).tab) ?_
      rintro _ w10 ⟨rfl, hS'⟩
      have hS := hS.call0 hS'
      refine Chk.mk hS ?_
      refine jr ⟨?_⟩
      refine Cl.mono (hO5.delete (hS.part (L := L5)) (tName n) hBi (by omega)) ?_
      rintro _ w11 ⟨rfl, L6, hO6, hS'⟩
      have hS := hS.call (L := L5) hS'
      have hB6 := hBi.del (tName n)
      generalize deleteM mi (tName n) = dm at hO6 hB6 hstep ⊢
      obtain ⟨e6, m6⟩ := dm
      simp only at hO6 hB6 hstep ⊢
      by_cases he6 : e6 = 0
      ·subst he6
       rw [if_neg (by simp)] at hstep
       (repeat (refine jt ⟨?_⟩; refine hS.st rfl rfl ?_; intro _ hS)); refine jt ⟨?_⟩
       exact ⟨k + 1, ⟨rfl, rfl, rfl, rfl, trivial⟩, ⟨hkl, m6, L6, hstep, hB6, hO6, hS⟩, by omega⟩
      ·rw [if_pos he6] at hstep
       rw [hstep] at hM
       (repeat (refine jt ⟨?_⟩; refine hS.st rfl rfl ?_; intro _ hS)); refine jt ⟨?_⟩
       exact hfin mk _ L6 _ _ (by rw [hmd]; exact hmk) hM rfl hO6 (hS.sub (kAj _ _))
     ·have hke : k = gone.length := by omega
      subst hke
      have hd0 : (gone.map tName).drop gone.length = [] := List.drop_of_length_le (by simp)
      rw [hd0] at hdl5
      rw [hdl5] at hM
      (repeat (refine jt ⟨?_⟩; refine hS.st rfl rfl ?_; intro _ hS)); refine jt ⟨?_⟩
      exact hfin mk _ L5 _ _ (by rw [hmd]; exact hmk) hM rfl hO5 (hS.sub (kAj _ _))
    ·rw [if_pos he2] at hM
     (repeat (refine jt ⟨?_⟩; refine hS.st rfl rfl ?_; intro _ hS)); refine jt ⟨?_⟩
     exact hfin mk _ L4 _ _ (by rw [hmd]; exact hmk) hM rfl hO4 (hS.sub (kAj _ _))
end Go.Proofs.YtkgibdhpijdbfaaGreatDoor
namespace Go.Proofs.YtkgibdhpijdbfaaGreatDoor
open Go Go.Eng Go.Proofs
theorem sizeO_take (ops : List OpM) (k : Nat) (hk : k < ops.length) : sizeO (ops.take (k + 1)) = sizeO (ops.take k) + szO ops[k] := by
 unfold sizeO; rw [kAn hk, kAi, kCf]; simp
theorem sizeO_le (ops : List OpM) (k : Nat) : sizeO (ops.take k) ≤ sizeO ops := by
 have : sizeO ops = sizeO (ops.take k) + sizeO (ops.drop k) := by
  unfold sizeO; rw [← kCf, ← kAi, kAu]
 omega
theorem szO_le {ops : List OpM} {o : OpM} (h : o ∈ ops) : szO o ≤ sizeO ops := by
 induction ops with
 |nil => cases h
 |cons p ops ih =>
  have e : sizeO (p :: ops) = szO p + sizeO ops := by simp [sizeO]
  rw [e]
  rcases kAf.1 h with rfl | h
  ·exact Nat.le_add_right _ _
  ·have := ih h; omega
theorem insE_len (x : EntM) (l : List EntM) : (insE x l).length ≤ l.length + 1 ∧ szsE (insE x l) ≤ szsE l + szE x := by
 rw [insE_eq]
 have e := to_from x.k x.s l
 have e1 := congrArg List.length e
 have e2 := congrArg szsE e
 rw [szsE_app] at e2
 rw [kAa] at e1
 rw [szsE_app, kAa]
 generalize fromE x.k x.s l = r at *
 have e3 : ∀ q : List EntM, szsE (x :: q) = szE x + szsE q := fun q => by simp [szsE]
 rw [e3, kAe]
 cases r with
 |nil => simp [szsE] at *; omega
 |cons y r =>
  have e4 : szsE (y :: r) = szE y + szsE r := by simp [szsE]
  rw [kAe] at e1
  simp only
  split
  ·omega
  ·rw [kAe, e4]; omega
theorem takeO_succ (seq : Int) (ops : List OpM) (l : List EntM) (k : Nat) (hk : k < ops.length) : takeO seq (ops.take (k + 1)) l = insE (entOf seq ops[k]) (takeO seq (ops.take k) l) := by
 unfold takeO; rw [kAn hk, kCn]; rfl
theorem takeO_rise (seq : Int) : ∀ (ops : List OpM) {l : List EntM}, Rise l → Rise (takeO seq ops l)
 |[], _, h => h
 |o :: ops, l, h => takeO_rise seq ops (l := insE (entOf seq o) l) (insE_rise h)
theorem entOf_sz (seq : Int) (o : OpM) : szE (entOf seq o) + 16 ≤ szO o := by
 unfold szE entOf szO
 simp only
 split <;> simp <;> omega
theorem takeO_sz (seq : Int) : ∀ (ops : List OpM) (l : List EntM), (takeO seq ops l).length ≤ l.length + ops.length ∧ szsE (takeO seq ops l) ≤ szsE l + sizeO ops
 |[], l => by simp [takeO, sizeO]
 |o :: ops, l => by
  have h1 := takeO_sz seq ops (insE (entOf seq o) l)
  have h2 := insE_len (entOf seq o) l
  have h3 := entOf_sz seq o
  have e : sizeO (o :: ops) = szO o + sizeO ops := by simp [sizeO]
  have e2 : takeO seq (o :: ops) l = takeO seq ops (insE (entOf seq o) l) := rfl
  rw [e, e2, kAe]; omega
theorem clean_raw (seq : Int) (o : OpM) : cleanE (entR seq o) = entOf seq o := rfl
set_option maxHeartbeats 2000000 in
theorem Ssize_spec {w : World} {a : Option Addr} {c : Nat} {ops : List OpM} (ha : Arr w [] a (ops.flatMap opDC)) (hl : sizeO ops ≤ 1099511627776) (hn : ops.length ≤ 1099511627776) :
  Cl Tryz.prog f_store_size [.slice a ops.length c] w fun v w' => v = .int .i64 (sizeO ops) ∧ St w [] [] w' := by
 have hS := St.start w
 have hcl := opsC_len ops
 refine en_store_size rfl ?_
 refine jq ⟨?_⟩
 refine SemW.loop (fun k : Nat => [(6, .slice a ops.length c), (7, .int .i64 ops.length), (8, .int .i64 k), (3, .int .i64 (sizeO (ops.take k)))]) (fun k w' => k ≤ ops.length ∧ St w [] [] w') (fun k => ops.length - k) 0
  ⟨rfl, rfl, rfl, rfl, trivial⟩ ⟨kAg _, hS⟩ ?_
 clear hS
 rintro k w1 ⟨hk, hS⟩
 by_cases hkl : k < ops.length
 ·obtain ⟨g, off, rfl, -, -⟩ := ha.get (j := k * 3) (by omega)
  have hat := opsC_at ops k hkl
  have hsucc := sizeO_take ops k hkl
  have hle := sizeO_le ops k
  have hsz := szO_le (kAx hkl)
  generalize ops[k] = o at hat hsucc hsz
  refine jq ⟨?_⟩
  refine Arr.ldn hS ha rfl (k := k * 3) hat rfl ?_
  unfold opDC
  unfold szO at hsucc hsz
  refine jq ⟨?_⟩
  refine hS.al ?_
  intro b5 w2 _ hS
  (repeat (refine jt ⟨?_⟩; refine hS.st rfl rfl ?_; intro _ hS)); refine jt ⟨?_⟩
  exact ⟨k + 1, ⟨rfl, rfl, rfl, by rw [hsucc]; exact congrArg (Value.int .i64) (by omega), trivial⟩, ⟨by omega, hS.sub (kAb _ _)⟩, by omega⟩
 ·obtain rfl : k = ops.length := by omega
  refine jq ⟨?_⟩
  rw [kAr]
  exact ⟨rfl, hS⟩
theorem upper_take (fs : List FileM) (k : Nat) (hk : k < fs.length) : ((fs.take (k + 1)).filter fun f => decide (f.1 = 0)).length = ((fs.take k).filter fun f => decide (f.1 = 0)).length + if fs[k].1 = 0 then 1 else 0 := by
 rw [kAn hk, kDh, kAa]
 congr 1
 by_cases h : fs[k].1 = 0 <;> simp [h]
set_option maxHeartbeats 2000000 in
theorem Supper_spec {w : World} {sb f : Nat} {s : StM} {m : FSm} {L : Heap} (hO : StO sb f s m L) (hh : Holds L w) (hn : s.v.files.length ≤ 16777216) : Cl Tryz.prog f_store_Store_upper [ptr sb] w fun v w' => v = .int .i64 (upperM s) ∧ St w (keys L) L w' := by
 have hS := St.enter hh
 obtain ⟨sq, es, c, hsq, ha, hc, Lh, hvh, a, ca, La, hv, lv, Ll, hl, gv, Lg, hg, mb, Lm, hm, tm, et, ct, ks, ht, Lt, hts, LF, hF⟩ := hO
 generalize keys _ = T0 at hS ⊢
 refine en_store_Store_upper rfl ?_
 (repeat (refine jt ⟨?_⟩; refine hS.st rfl rfl ?_; intro _ hS)); refine jt ⟨?_⟩
 have hcl := filesC_len s.v.files
 refine SemW.loop (fun k : Nat => [(10, .slice a s.v.files.length ca), (11, .int .i64 s.v.files.length), (12, .int .i64 k), (3, .int .i64 ((s.v.files.take k).filter fun f => decide (f.1 = 0)).length)])
  (fun k w' => k ≤ s.v.files.length ∧ St w T0 _ w') (fun k => s.v.files.length - k) 0
  ⟨rfl, rfl, rfl, rfl, trivial⟩ ⟨kAg _, hS⟩ ?_
 clear hS
 rintro k w1 ⟨hk, hS⟩
 have hfa := filesAt_vec hS hv.vec
 by_cases hkl : k < s.v.files.length
 ·obtain ⟨g, off, rfl⟩ := hfa.pos (by omega)
  have hat := hfa.at hkl
  have hsucc := upper_take s.v.files k hkl
  have hle : ((s.v.files.take k).filter fun f => decide (f.1 = 0)).length ≤ s.v.files.length := by
   refine kBb (List.length_filter_le _ _) ?_
   rw [kAo]; omega
  generalize s.v.files[k] = fl at hat hsucc
  (repeat (refine jt ⟨?_⟩; refine hS.st rfl rfl ?_; intro _ hS)); refine jt ⟨?_⟩
  refine Arr.ldn (St.start w1) hfa.arr rfl (k := k * 2) hat rfl ?_
  unfold fileC
  (repeat (refine jt ⟨?_⟩; refine hS.st rfl rfl ?_; intro _ hS)); refine jt ⟨?_⟩
  refine hS.al ?_
  intro b5 w2 _ hS
  (repeat (refine jt ⟨?_⟩; refine hS.st rfl rfl ?_; intro _ hS)); refine jt ⟨?_⟩
  by_cases h0 : fl.1 = 0
  ·rw [if_pos h0] at hsucc
   (repeat (refine jt ⟨?_⟩; refine hS.st rfl rfl ?_; intro _ hS)); refine jt ⟨?_⟩
   exact ⟨k + 1, ⟨rfl, rfl, rfl, by rw [hsucc]; rfl, trivial⟩, ⟨by omega, hS.sub (kAb _ _)⟩, by omega⟩
  ·rw [if_neg h0] at hsucc
   (repeat (refine jt ⟨?_⟩; refine hS.st rfl rfl ?_; intro _ hS)); refine jt ⟨?_⟩
   exact ⟨k + 1, ⟨rfl, rfl, rfl, by rw [hsucc]; rfl, trivial⟩, ⟨by omega, hS.sub (kAb _ _)⟩, by omega⟩
 ·have hke : k = s.v.files.length := by omega
  subst hke
  (repeat (refine jt ⟨?_⟩; refine hS.st rfl rfl ?_; intro _ hS)); refine jt ⟨?_⟩
  rw [kAr]
  exact ⟨rfl, hS⟩
set_option maxHeartbeats 4000000 in
theorem Stake_spec {w : World} {sb f : Nat} {s : StM} {m : FSm} {L : Heap} (hO : StO sb f s m L) (hh : Holds L w) (seq : Int) {a : Option Addr} {c : Nat} {ops : List OpM} (ha : Arr w (keys L) a (ops.flatMap opDC)) (hr : Rise s.mem)
  (h1 : szsE s.mem + sizeO ops ≤ 1099511627776) (h2 : s.mem.length + ops.length ≤ 1099511627776) (h3 : s.adds + ops.length ≤ 4611686018427387904) :
  Cl Tryz.prog f_store_Store_take [ptr sb, .int .i64 seq, .slice a ops.length c] w fun _ w' => ∃ L', StO sb f { s with mem := takeO seq ops s.mem, adds := s.adds + ops.length } m L' ∧ St w (keys L) L' w' := by
 have hS := St.enter hh
 have hcl := opsC_len ops
 generalize keys L = T0 at hS ha ⊢
 refine en_store_Store_take rfl ?_
 refine jq ⟨?_⟩
 refine SemW.loop (fun k : Nat => [(0, ptr sb), (1, .int .i64 seq), (8, .slice a ops.length c), (9, .int .i64 ops.length), (10, .int .i64 k)])
  (fun k w' => k ≤ ops.length ∧ ∃ L', StO sb f { s with mem := takeO seq (ops.take k) s.mem, adds := s.adds + k } m L' ∧ St w T0 L' w') (fun k => ops.length - k) 0
  ⟨rfl, rfl, rfl, rfl, rfl, trivial⟩ ⟨kAg _, L, hO, hS⟩ ?_
 clear hS hO
 rintro k w1 ⟨hk, L1, hO, hS⟩
 by_cases hkl : k < ops.length
 ·obtain ⟨g, off, rfl, -, -⟩ := ha.get (j := k * 3) (by omega)
  have hat := opsC_at ops k hkl
  have hsucc := takeO_succ seq ops s.mem k hkl
  have htr := takeO_rise seq (ops.take k) hr
  have hts2 := takeO_sz seq (ops.take k) s.mem
  have hle := sizeO_le ops (k + 1)
  rw [sizeO_take ops k hkl] at hle
  have hez := entOf_sz seq ops[k]
  have hcr := clean_raw seq ops[k]
  have hxz : szE (entR seq ops[k]) + 16 ≤ szO ops[k] := by unfold szE entR szO; simp only; omega
  rw [kAo, Nat.min_eq_left hk] at hts2
  generalize ops[k] = o at hat hsucc hle hez hcr hxz
  obtain ⟨sq, es, cq, hsq, ha1, hc1, Lh, hvh, a2, ca, La, hv, lv, Ll, hl, gv, Lg, hg, mb, Lm, hm, tm, et, ct, ks, ht, Lt, hts, LF, hF⟩ := hO
  simp only at hm hts hF hl hg hv hvh hsq ht
  generalize takeO seq (ops.take k) s.mem = mem at hm hsucc htr hts2 hS
  (repeat (refine jt ⟨?_⟩; refine hS.st rfl rfl ?_; intro _ hS)); refine jt ⟨?_⟩
  refine Arr.ldn hS ha rfl (k := k * 3) hat rfl ?_
  unfold opDC
  (repeat (refine jt ⟨?_⟩; refine hS.st rfl rfl ?_; intro _ hS)); refine jt ⟨?_⟩
  refine hS.al ?_
  intro b7 w2 _ hS
  (repeat (refine jt ⟨?_⟩; refine hS.st rfl rfl ?_; intro _ hS)); refine jt ⟨?_⟩
  refine SemW.draw tblOk mixed (fun w' => St w T0 _ w') [13] [0, 1, 2, 3, 4, 5, 6, 7, 8, 9, 10, 11, 12, 13] (by kernel_rfl) hS.drew ?_
  have hS := hS.drew
  refine jr ⟨?_⟩
  refine hS.al ?_
  intro b26 w3 _ hS
  refine Chk.mk (hS.sub (kAb _ _)) ?_
  refine jr ⟨?_⟩
  refine Cl.mono (MAdd_spec hm (hS.part (L := Lm)) htr (x := entR seq o) (hS.arr (b := b26) (nodup_chunk hS)) (by omega) (by omega) (by omega)) ?_
  rintro _ w4 ⟨Lm2, hm2, hS'⟩
  have hS := (hS.call (L := Lm) hS').sub ((kAb _ _).trans (kAb _ _))
  rw [hcr, ← hsucc] at hm2
  (repeat (refine jt ⟨?_⟩; refine hS.st rfl rfl ?_; intro _ hS)); refine jt ⟨?_⟩
  exact ⟨k + 1, ⟨rfl, rfl, rfl, rfl, rfl, trivial⟩, ⟨by omega, _, StO.mk (s := { s with mem := takeO seq (ops.take (k + 1)) s.mem, adds := s.adds + (k + 1) }) sq es cq hsq ha1 hc1 Lh hvh a2 ca La hv lv Ll hl gv Lg hg mb Lm2 hm2 tm et ct ks ht Lt hts LF hF, hS⟩, by omega⟩
 ·obtain rfl : k = ops.length := by omega
  rw [kAr] at hO
  refine jq ⟨?_⟩
  exact ⟨L1, hO, hS⟩
theorem opsB_take (ops : List OpM) (k : Nat) (hk : k < ops.length) : opsB (ops.take (k + 1)) = opsB (ops.take k) ++ opB ops[k] := by
 unfold opsB; rw [kAn hk, kAi, kBy]; simp
theorem opB_len (o : OpM) (h : szO o ≤ 1099511627776) : (opB o).length ≤ szO o + 30 := by
 unfold szO at h ⊢
 have h1 := numB_len' (n := o.1.length) (by omega)
 have h2 := numB_len' (n := o.2.2.length) (by omega)
 have h3 := numB_len' (n := 0) (by omega)
 have h4 := numB_len' (n := 1) (by omega)
 unfold opB textB
 split
 ·simp only [kAa]; omega
 ·simp only [kAa]; omega
theorem opsB_len : ∀ (ops : List OpM), sizeO ops ≤ 1099511627776 → (opsB ops).length ≤ sizeO ops + 30 * ops.length
 |[], _ => by simp [opsB, sizeO]
 |o :: ops, h => by
  have e : sizeO (o :: ops) = szO o + sizeO ops := by simp [sizeO]
  have e2 : opsB (o :: ops) = opB o ++ opsB ops := by simp [opsB]
  have h1 := opB_len o (by omega)
  have h2 := opsB_len ops (by omega)
  rw [e, e2, kAa, kAe]; omega
theorem sizeO_cnt : ∀ (ops : List OpM), 16 * ops.length ≤ sizeO ops
 |[] => by simp
 |o :: ops => by
  have e : sizeO (o :: ops) = szO o + sizeO ops := by simp [sizeO]
  have := sizeO_cnt ops
  rw [e, kAe]; unfold szO; omega
theorem payB_len (seq : Int) (ops : List OpM) (hq : i64ok seq) (h : sizeO ops ≤ 1099511627776) : (payB seq ops).length ≤ 20 + 3 * sizeO ops := by
 have h1 := opsB_len ops h
 have h2 := sizeO_cnt ops
 have h3 := numB_len' (n := ops.length) (by omega)
 have h4 : (intB seq).length ≤ 10 := numB_len10 _ (zig_ok hq)
 unfold payB
 simp only [kAa]; omega
set_option maxHeartbeats 4000000 in
theorem Spay_spec {w : World} {seq : Int} {a : Option Addr} {c : Nat} {ops : List OpM} (ha : Arr w [] a (ops.flatMap opDC)) (hq : i64ok seq) (hsz : sizeO ops ≤ 1099511627776) :
  Cl Tryz.prog f_store_payload [.int .i64 seq, .slice a ops.length c] w fun v w' => v = Str (payB seq ops) ∧ St w [] [] w' := by
 have hS := St.start w
 have hcl := opsC_len ops
 have hcnt := sizeO_cnt ops
 have hil : (intB seq).length ≤ 10 := numB_len10 _ (zig_ok hq)
 have hnl := numB_len' (n := ops.length) (by omega)
 refine en_store_payload rfl ?_
 refine jq ⟨?_⟩
 refine PNew_spec.mono ?_
 rintro _ w1 ⟨pb, L, rfl, hW, hS'⟩
 have hS := hS.callNew hS'
 rw [kAk] at hS
 refine jq ⟨?_⟩
 refine hS.al ?_
 intro b11 w2 _ hS
 (repeat (refine jt ⟨?_⟩; refine hS.st rfl rfl ?_; intro _ hS)); refine jt ⟨?_⟩
 refine Cl.mono (Int_spec hW (hS.part (L := L)) (zs := [seq]) (hS.arr (b := b11) (nodup_chunk hS)) (by intro z hz; simp only [kAy] at hz; subst hz; exact hq) (by simp) (by simp)) ?_
 rintro _ w3 ⟨L, hW, hS'⟩
 have hS := (hS.call hS').sub (kAb _ _)
 rw [show [] ++ intsB [seq] = intB seq by simp [intsB]] at hW
 (repeat (refine jt ⟨?_⟩; refine hS.st rfl rfl ?_; intro _ hS)); refine jt ⟨?_⟩
 refine hS.al ?_
 intro b17 w4 _ hS
 (repeat (refine jt ⟨?_⟩; refine hS.st rfl rfl ?_; intro _ hS)); refine jt ⟨?_⟩
 refine Cl.mono (Num_spec hW (hS.part (L := L)) (ns := [ops.length]) (hS.arr (b := b17) (nodup_chunk hS)) (by intro m hm; simp only [kAy] at hm; subst hm; omega) (by simp) (by simp; omega)) ?_
 rintro _ w5 ⟨L, hW, hS'⟩
 have hS := (hS.call hS').sub (kAb _ _)
 rw [show ([ops.length].map numB).flatten = numB ops.length by simp] at hW
 (repeat (refine jt ⟨?_⟩; refine hS.st rfl rfl ?_; intro _ hS)); refine jt ⟨?_⟩
 refine SemW.loop (fun k : Nat => [(1, .slice a ops.length c), (5, ptr pb), (19, .slice a ops.length c), (20, .int .i64 ops.length), (21, .int .i64 k)])
  (fun k w' => k ≤ ops.length ∧ ∃ L, PackW pb (intB seq ++ numB ops.length ++ opsB (ops.take k)) L ∧ St w [] L w') (fun k => ops.length - k) 0
  ⟨rfl, rfl, rfl, rfl, rfl, trivial⟩ ⟨kAg _, L, by simpa [opsB] using hW, hS⟩ ?_
 clear hS hS' hW
 rintro k w6 ⟨hk, L, hW, hS⟩
 by_cases hkl : k < ops.length
 ·obtain ⟨g, off, rfl, -, -⟩ := ha.get (j := k * 3) (by omega)
  have hat := opsC_at ops k hkl
  have hsucc := opsB_take ops k hkl
  have hol := opsB_len (ops.take k) (by have := sizeO_le ops k; omega)
  have hsz1 := sizeO_le ops (k + 1)
  rw [sizeO_take ops k hkl] at hsz1
  rw [kAo, Nat.min_eq_left hk] at hol
  generalize ops[k] = o at hat hsucc hsz1
  obtain ⟨ok, od, ov⟩ := o
  unfold szO at hsz1
  simp only at hsz1
  have htk : (textB ok).length ≤ 10 + ok.length := by have := numB_len' (n := ok.length) (by omega); unfold textB; rw [kAa]; omega
  have hn0 := numB_len' (n := 0) (by omega)
  have hn1 := numB_len' (n := 1) (by omega)
  (repeat (refine jt ⟨?_⟩; refine hS.st rfl rfl ?_; intro _ hS)); refine jt ⟨?_⟩
  refine Arr.ldn hS ha rfl (k := k * 3) hat rfl ?_
  unfold opDC
  (repeat (refine jt ⟨?_⟩; refine hS.st rfl rfl ?_; intro _ hS)); refine jt ⟨?_⟩
  refine hS.al ?_
  intro b7 w7 _ hS
  (repeat (refine jt ⟨?_⟩; refine hS.st rfl rfl ?_; intro _ hS)); refine jt ⟨?_⟩
  refine hS.al ?_
  intro b28 w8 _ hS
  (repeat (refine jt ⟨?_⟩; refine hS.st rfl rfl ?_; intro _ hS)); refine jt ⟨?_⟩
  refine Cl.mono (Text_spec hW (hS.part (L := L)) (ss := [ok]) (hS.arr (b := b28) (nodup_chunk hS)) (by simp [sumLen]; omega)) ?_
  rintro _ w9 ⟨L, hW, hS'⟩
  have hS := (hS.call hS').sub (kAb _ _)
  rw [show textsB [ok] = textB ok by simp [textsB]] at hW
  cases od with
  |true =>
   (repeat (refine jt ⟨?_⟩; refine hS.st rfl rfl ?_; intro _ hS)); refine jt ⟨?_⟩
   refine hS.al ?_
   intro b33 w10 _ hS
   (repeat (refine jt ⟨?_⟩; refine hS.st rfl rfl ?_; intro _ hS)); refine jt ⟨?_⟩
   refine Cl.mono (Num_spec hW (hS.part (L := L)) (ns := [1]) (hS.arr (b := b33) (nodup_chunk hS)) (by intro m hm; simp only [kAy] at hm; subst hm; omega) (by simp) (by simp; omega)) ?_
   rintro _ w11 ⟨L, hW, hS'⟩
   have hS := (hS.call hS').sub ((kAb _ _).trans (kAb _ _))
   rw [show ([1].map numB).flatten = numB 1 by simp] at hW
   (repeat (refine jt ⟨?_⟩; refine hS.st rfl rfl ?_; intro _ hS)); refine jt ⟨?_⟩
   refine ⟨k + 1, ⟨rfl, rfl, rfl, rfl, rfl, trivial⟩, ⟨hkl, _, ?_, hS⟩, by omega⟩
   rw [hsucc]; unfold opB
   simpa using hW
  |false =>
   (repeat (refine jt ⟨?_⟩; refine hS.st rfl rfl ?_; intro _ hS)); refine jt ⟨?_⟩
   refine hS.al ?_
   intro b33 w10 _ hS
   (repeat (refine jt ⟨?_⟩; refine hS.st rfl rfl ?_; intro _ hS)); refine jt ⟨?_⟩
   refine Cl.mono (Num_spec hW (hS.part (L := L)) (ns := [0]) (hS.arr (b := b33) (nodup_chunk hS)) (by intro m hm; simp only [kAy] at hm; subst hm; omega) (by simp) (by simp; omega)) ?_
   rintro _ w11 ⟨L, hW, hS'⟩
   have hS := (hS.call hS').sub (kAb _ _)
   rw [show ([0].map numB).flatten = numB 0 by simp] at hW
   (repeat (refine jt ⟨?_⟩; refine hS.st rfl rfl ?_; intro _ hS)); refine jt ⟨?_⟩
   refine hS.al ?_
   intro b41 w12 _ hS
   (repeat (refine jt ⟨?_⟩; refine hS.st rfl rfl ?_; intro _ hS)); refine jt ⟨?_⟩
   refine Cl.mono (Text_spec hW (hS.part (L := L)) (ss := [ov]) (hS.arr (b := b41) (nodup_chunk hS)) (by simp [sumLen]; omega)) ?_
   rintro _ w13 ⟨L, hW, hS'⟩
   have hS := (hS.call hS').sub ((kAb _ _).trans (kAb _ _))
   rw [show textsB [ov] = textB ov by simp [textsB]] at hW
   (repeat (refine jt ⟨?_⟩; refine hS.st rfl rfl ?_; intro _ hS)); refine jt ⟨?_⟩
   refine ⟨k + 1, ⟨rfl, rfl, rfl, rfl, rfl, trivial⟩, ⟨hkl, _, ?_, hS⟩, by omega⟩
   rw [hsucc]; unfold opB
   simpa using hW
 ·obtain rfl : k = ops.length := by omega
  rw [kAr] at hW
  (repeat (refine jt ⟨?_⟩; refine hS.st rfl rfl ?_; intro _ hS)); refine jt ⟨?_⟩
  refine Cl.mono (Bytes_spec hW (hS.part (L := L))) ?_
  rintro _ w7 ⟨rfl, hS'⟩
  have hS := hS.call (L := L) hS'
  (repeat (refine jt ⟨?_⟩; refine hS.st rfl rfl ?_; intro _ hS)); refine jt ⟨?_⟩
  refine ⟨?_, hS.nil⟩
  unfold payB; rw [kAc]
theorem opsB_drop {ops : List OpM} {k : Nat} (hk : k < ops.length) : opsB (ops.drop k) = opB ops[k] ++ opsB (ops.drop (k + 1)) := by
 unfold opsB; rw [kBs hk, kAh, kBi]
theorem sizeO_drop (ops : List OpM) (k : Nat) : sizeO (ops.drop k) ≤ sizeO ops := by
 have : sizeO ops = sizeO (ops.take k) + sizeO (ops.drop k) := by
  unfold sizeO; rw [← kCf, ← kAi, kAu]
 omega
set_option maxRecDepth 4000 in
set_option maxHeartbeats 8000000 in
theorem Sbatch_spec {w : World} {seq : Int} {ops : List OpM} (hq : i64ok seq) (hsz : sizeO ops ≤ 1099511627776) :
  Cl Tryz.prog f_store_batch [Str (payB seq ops)] w fun v w' => ∃ a c L, v = .tuple ⟨[.int .i64 seq, .slice a ops.length c, .int .i64 0]⟩ ∧ Vec T_api_Op 3 a ops.length c ((ops.map cleanO).flatMap opDC) L ∧ St w [] L w' := by
 have hS := St.start w
 have hcnt := sizeO_cnt ops
 have hpl := payB_len seq ops hq hsz
 have hil : (intB seq).length ≤ 10 := numB_len10 _ (zig_ok hq)
 have hnl := numB_len' (n := ops.length) (by omega)
 have hol := opsB_len ops hsz
 refine en_store_batch rfl ?_
 refine jq ⟨?_⟩
 refine PRead_spec.mono ?_
 rintro _ w1 ⟨rb, rfl, hS'⟩
 have hS := hS.callNew hS'
 rw [kAk] at hS
 refine jq ⟨?_⟩
 refine Cl.mono (RInt_spec (hS.part (L := [(rb, rdC (payB seq ops))])) (by omega)) ?_
 unfold payB
 rw [intO_at hq]
 rintro _ w2 ⟨rfl, hS'⟩
 have hS := hS.call (L := [(rb, rdC (payB seq ops))]) hS'
 refine jq ⟨?_⟩
 refine Cl.mono (RNum_spec (hS.part (L := [(rb, rdC (numB ops.length ++ opsB ops))])) (by simp only [kAa]; omega)) ?_
 rw [numO_at (by omega)]
 rintro _ w3 ⟨rfl, hS'⟩
 have hS := hS.call (L := [(rb, rdC (numB ops.length ++ opsB ops))]) hS'
 refine jq ⟨?_⟩
 refine SemW.loop (fun i : Nat × Option Addr × Nat => [(5, ptr rb), (6, .int .i64 seq), (7, .int .i64 0), (8, .int .u64 ops.length), (9, .int .i64 0), (10, .slice i.2.1 i.1 i.2.2), (11, .int .u64 i.1)])
  (fun i w' => i.1 ≤ ops.length ∧ ∃ L, Vec T_api_Op 3 i.2.1 i.1 i.2.2 (((ops.take i.1).map cleanO).flatMap opDC) L ∧ St w [] (L ++ [(rb, rdC (opsB (ops.drop i.1)))]) w') (fun i => ops.length - i.1) (0, none, 0)
  ⟨rfl, rfl, rfl, rfl, rfl, rfl, rfl, trivial⟩ ⟨kAg _, [], Vec.nil, hS⟩ ?_
 clear hS hS'
 rintro ⟨k, a, c⟩ w4 ⟨hk, L, hv, hS⟩
 simp only at hk hv hS ⊢
 by_cases hkl : k < ops.length
 ·have hdrop := opsB_drop hkl
  have hsucc : ((ops.take (k + 1)).map cleanO).flatMap opDC = ((ops.take k).map cleanO).flatMap opDC ++ opDC (cleanO ops[k]) := by
   rw [kAn hkl, kAi, kCm]; simp
  have hoz := szO_le (kAx hkl)
  have hdl := opsB_len (ops.drop k) (by have := sizeO_drop ops k; omega)
  have hdz := sizeO_drop ops k
  rw [kBf] at hdl
  rw [hdrop] at hS hdl
  generalize ops[k] = o at hdrop hsucc hoz hS hdl
  obtain ⟨ok, od, ov⟩ := o
  unfold szO at hoz
  unfold opB at hS hdl
  simp only at hoz hS hdl
  rw [kAc] at hS hdl
  rw [kAa] at hdl
  (repeat (refine jt ⟨?_⟩; refine hS.st rfl rfl ?_; intro _ hS)); refine jt ⟨?_⟩
  refine hS.al ?_
  intro b12 w5 _ hS
  (repeat (refine jt ⟨?_⟩; refine hS.st rfl rfl ?_; intro _ hS)); refine jt ⟨?_⟩
  cases od with
  |true =>
   rw [if_pos rfl] at hS hdl
   refine Cl.mono (RText_spec (hS.part (L := [(rb, rdC (textB ok ++ (numB 1 ++ opsB (ops.drop (k + 1)))))])) (by simp only [kAa] at *; omega)) ?_
   rw [textO_at (by omega)]
   rintro _ w6 ⟨rfl, hS'⟩
   have hS := hS.call (L := [(rb, rdC (textB ok ++ (numB 1 ++ opsB (ops.drop (k + 1)))))]) hS'
   (repeat (refine jt ⟨?_⟩; refine hS.st rfl rfl ?_; intro _ hS)); refine jt ⟨?_⟩
   refine Cl.mono (RNum_spec (hS.part (L := [(rb, rdC (numB 1 ++ opsB (ops.drop (k + 1))))])) (by simp only [kAa] at *; omega)) ?_
   rw [numO_at (by omega)]
   rintro _ w7 ⟨rfl, hS'⟩
   have hS := hS.call (L := [(rb, rdC (numB 1 ++ opsB (ops.drop (k + 1))))]) hS'
   (repeat (refine jt ⟨?_⟩; refine hS.st rfl rfl ?_; intro _ hS)); refine jt ⟨?_⟩
   refine hS.al ?_
   intro b71 w20 _ hS
   (repeat (refine jt ⟨?_⟩; refine hS.st rfl rfl ?_; intro _ hS)); refine jt ⟨?_⟩
   refine St.app (sz := 3) (m := 1) tblOk rfl rfl rfl rfl hS hv (news := opDC (cleanO (ok, true, ov))) rfl (by have := hS.arr (b := b71) (T' := []) (by simp); exact this) rfl (by show (_ + _) * 40 ≤ _; omega) (by omega) ?_
   intro a2 c2 L2 w21 hv hS
   have hS := hS.sub (kAb _ _)
   (repeat (refine jt ⟨?_⟩; refine hS.st rfl rfl ?_; intro _ hS)); refine jt ⟨?_⟩
   refine ⟨(k + 1, a2, c2), ⟨rfl, rfl, rfl, rfl, rfl, rfl, rfl, trivial⟩, ⟨hkl, L2, ?_, hS.sub ?_⟩, by simp only; omega⟩
   ·rw [hsucc]; exact hv
   ·exact kAb _ _
  |false =>
   rw [if_neg (by simp), kAc] at hS
   rw [if_neg (by simp)] at hdl
   simp only [kAa] at hdl
   refine Cl.mono (RText_spec (hS.part (L := [(rb, rdC (textB ok ++ (numB 0 ++ (textB ov ++ opsB (ops.drop (k + 1))))))])) (by simp only [kAa] at *; omega)) ?_
   rw [textO_at (by omega)]
   rintro _ w6 ⟨rfl, hS'⟩
   have hS := hS.call (L := [(rb, rdC (textB ok ++ (numB 0 ++ (textB ov ++ opsB (ops.drop (k + 1))))))]) hS'
   (repeat (refine jt ⟨?_⟩; refine hS.st rfl rfl ?_; intro _ hS)); refine jt ⟨?_⟩
   refine Cl.mono (RNum_spec (hS.part (L := [(rb, rdC (numB 0 ++ (textB ov ++ opsB (ops.drop (k + 1)))))])) (by simp only [kAa] at *; omega)) ?_
   rw [numO_at (by omega)]
   rintro _ w7 ⟨rfl, hS'⟩
   have hS := hS.call (L := [(rb, rdC (numB 0 ++ (textB ov ++ opsB (ops.drop (k + 1)))))]) hS'
   (repeat (refine jt ⟨?_⟩; refine hS.st rfl rfl ?_; intro _ hS)); refine jt ⟨?_⟩
   refine Cl.mono (RText_spec (hS.part (L := [(rb, rdC (textB ov ++ opsB (ops.drop (k + 1))))])) (by simp only [kAa] at *; omega)) ?_
   rw [textO_at (by omega)]
   rintro _ w8 ⟨rfl, hS'⟩
   have hS := hS.call (L := [(rb, rdC (textB ov ++ opsB (ops.drop (k + 1))))]) hS'
   (repeat (refine jt ⟨?_⟩; refine hS.st rfl rfl ?_; intro _ hS)); refine jt ⟨?_⟩
   refine hS.al ?_
   intro b71 w20 _ hS
   (repeat (refine jt ⟨?_⟩; refine hS.st rfl rfl ?_; intro _ hS)); refine jt ⟨?_⟩
   refine St.app (sz := 3) (m := 1) tblOk rfl rfl rfl rfl hS hv (news := opDC (cleanO (ok, false, ov))) rfl (by have := hS.arr (b := b71) (T' := []) (by simp); exact this) rfl (by show (_ + _) * 40 ≤ _; omega) (by omega) ?_
   intro a2 c2 L2 w21 hv hS
   have hS := hS.sub (kAb _ _)
   (repeat (refine jt ⟨?_⟩; refine hS.st rfl rfl ?_; intro _ hS)); refine jt ⟨?_⟩
   refine ⟨(k + 1, a2, c2), ⟨rfl, rfl, rfl, rfl, rfl, rfl, rfl, trivial⟩, ⟨hkl, L2, ?_, hS.sub ?_⟩, by simp only; omega⟩
   ·rw [hsucc]; exact hv
   ·exact kAb _ _
 ·obtain rfl : k = ops.length := by omega
  rw [kAr] at hv
  rw [kCt] at hS
  (repeat (refine jt ⟨?_⟩; refine hS.st rfl rfl ?_; intro _ hS)); refine jt ⟨?_⟩
  refine Cl.mono (RDone_spec (hS.part (L := [(rb, rdC (opsB []))]))) ?_
  rintro _ w5 ⟨rfl, hS'⟩
  have hS := hS.call0 hS'
  have hnil : (decide (opsB [] = [])) = true := rfl
  rw [hnil]
  (repeat (refine jt ⟨?_⟩; refine hS.st rfl rfl ?_; intro _ hS)); refine jt ⟨?_⟩
  exact ⟨a, c, L, rfl, hv, hS.sub (kBk _ _)⟩
end Go.Proofs.YtkgibdhpijdbfaaGreatDoor
namespace Go.Proofs.YtkgibdhpijdbfaaGreatDoor
open Go Go.Eng Go.Proofs Go.Srt
theorem _root_.Go.Eng.Arr.stay {w w' : World} {T : List Nat} {H L : Heap} {F : Heap → Heap} {a : Option Addr} {xs : List Value} (ha : Arr w T a xs) (hS : St w T H w') [hc : Chunk H L F] : Arr w' (keys L) a xs := fun j x hx => by
 obtain ⟨b, off, h1, h2, h3⟩ := ha j x hx
 exact ⟨b, off, h1, hS.notin (World.block_lt_of_cell? w ⟨b, off + j, none⟩ h3) h2, hS.oldCell (a := ⟨b, off + j, none⟩) h2 h3⟩
theorem flushM_fst (s : StM) (m : FSm) (mk : List (Int × List EntM)) : ∃ l v t g mm a, (flushM s m mk).2.1 = { s with list := l, v := v, tabs := t, log := g, mem := mm, adds := a } := by
 unfold flushM
 simp only
 split
 ·exact ⟨s.list, s.v, s.tabs, s.log, s.mem, s.adds, rfl⟩
 split
 ·exact ⟨s.list, s.v, s.tabs, s.log, s.mem, s.adds, rfl⟩
 obtain ⟨l, v, t, h⟩ := editM_fst s (layM m s.v.next (pieces 64 s.mem)).2 ⟨filesOf 0 (numsFrom s.v.next (pieces 64 s.mem)), [], s.v.next + (pieces 64 s.mem).length, s.v.next + (pieces 64 s.mem).length + 1, s.seq⟩ mk
 generalize editM s (layM m s.v.next (pieces 64 s.mem)).2 ⟨filesOf 0 (numsFrom s.v.next (pieces 64 s.mem)), [], s.v.next + (pieces 64 s.mem).length, s.v.next + (pieces 64 s.mem).length + 1, s.seq⟩ mk = q at h ⊢
 obtain ⟨e, s2, m2⟩ := q
 simp only at h ⊢
 subst h
 split
 ·exact ⟨l, v, t, s.log, s.mem, s.adds, rfl⟩
 split
 ·exact ⟨l, v, t, none, [], 0, rfl⟩
 ·exact ⟨l, v, t, _, [], 0, rfl⟩
theorem StO.upperP {w : World} {sb f : Nat} {s : StM} {m : FSm} {L : Heap} (hO : StO sb f s m L) (hh : Holds L w) (hn : s.v.files.length ≤ 16777216) : Cl Tryz.prog f_store_Store_upper [ptr sb] w fun v w' => v = .int .i64 (upperM s) ∧ St w (keys L) L w' := Supper_spec hO hh hn
def tookM (s : StM) (g : LogM) (ops : List OpM) : StM := { s with log := some g, seq := s.seq + 1, mem := takeO (s.seq + 1) ops s.mem, adds := s.adds + ops.length }
inductive FlR (s : StM) (m : FSm) : StM → FSm → Prop where
 |no (h : ¬ s.memMax ≤ s.mem.length) : FlR s m s m
 |fl (mk : List (Int × List EntM)) (hp : mk.Perm (numsFrom s.v.next (pieces 64 s.mem))) (h : s.memMax ≤ s.mem.length) : FlR s m (flushM s m mk).2.1 (flushM s m mk).2.2
 |co (mk : List (Int × List EntM)) (hp : mk.Perm (numsFrom s.v.next (pieces 64 s.mem))) (h : s.memMax ≤ s.mem.length) (s1 : StM) (m1 : FSm) (h0 : flushM s m mk = (0, s1, m1)) (r : List EntM) (seen : List Int) (mk2 : List (Int × List EntM)) (h1 : r.Perm (tabsE s1)) (h2 : Rise r) (h3 : seen.Perm (seenS s1))
   (h4 : mk2.Perm (numsFrom s1.v.next (pieces 64 (trimE seen r)))) : FlR s m (compactM s1 m1 (trimE seen r) mk2).2.1 (compactM s1 m1 (trimE seen r) mk2).2.2
inductive WrR (s : StM) (m : FSm) (ops : List OpM) : Int → StM → FSm → Prop where
 |down (h : downS s m = true) : WrR s m ops 7 (deadS s) m
 |long (h : downS s m = false) (h1 : 4096 < sizeO ops) : WrR s m ops 2 s m
 |none (h : downS s m = false) (h1 : ops = []) : WrR s m ops 0 s m
 |bad (h : downS s m = false) (h1 : sizeO ops ≤ 4096) (h2 : ops ≠ []) (g g' : LogM) (m1 : FSm) (e : Int) (hg : s.log = some g) (ha : appL m g [payB (s.seq + 1) ops] = (e, g', m1)) (he : e ≠ 0) : WrR s m ops (doneM { s with log := some g' } m1 e).1 (doneM { s with log := some g' } m1 e).2 m1
 |ok (h : downS s m = false) (h1 : sizeO ops ≤ 4096) (h2 : ops ≠ []) (g g' : LogM) (m1 : FSm) (hg : s.log = some g) (ha : appL m g [payB (s.seq + 1) ops] = (0, g', m1)) (s2 : StM) (m2 : FSm) (hf : FlR (tookM s g' ops) m1 s2 m2) : WrR s m ops (doneM s2 m2 0).1 (doneM s2 m2 0).2 m2
def FlOk (s : StM) (m : FSm) : Prop := ∃ A T, SWr A T s m ∧ ∀ mk, mk.Perm (numsFrom s.v.next (pieces 64 s.mem)) → (flushM s m mk).2.1.v.files.length ≤ 16777216 ∧ ((flushM s m mk).1 = 0 → ∃ A2 T2, SWr A2 T2 (flushM s m mk).2.1 (flushM s m mk).2.2 ∧ SCo (flushM s m mk).2.1)
def WrPost (sb f : Nat) (s : StM) (m : FSm) (ops : List OpM) (w : World) (T0 : List Nat) (v : Value) (w' : World) : Prop := ∃ e s' m' L', WrR s m ops e s' m' ∧ v = .int .i64 e ∧ StO sb f s' m' L' ∧ St w T0 L' w'
def FlPost (sb f : Nat) (s : StM) (m : FSm) (w : World) (T0 : List Nat) (w' : World) : Prop := ∃ s' m' L', FlR s m s' m' ∧ StO sb f s' m' L' ∧ St w T0 L' w'
set_option maxRecDepth 8000 in
set_option maxHeartbeats 16000000 in
theorem SWrite_spec {w : World} {sb f A T : Nat} {s : StM} {m : FSm} {L : Heap} (hO : StO sb f s m L) (hh : Holds L w) (hG : Glob w (keys L)) {a : Option Addr} {c : Nat} {ops : List OpM} (ha : Arr w (keys L) a (ops.flatMap opDC)) (hl : sizeO ops ≤ 1099511627776) (hF : FT A T m) (hA : A ≤ 2305843009213693952) (hT2 : T + 1048576 ≤ 1099511627776)
  {g : LogM} (hg : s.log = some g) (hgn : g.n ≤ 2305843009213693952) (hr : Rise s.mem) (hmz : szsE s.mem ≤ 549755813888) (hml : s.mem.length ≤ 4194304) (had : s.adds ≤ 2305843009213693952) (hsq : 0 ≤ s.seq ∧ s.seq ≤ 1152921504606846976)
  (hok : ∀ g' m1, sizeO ops ≤ 4096 → ops ≠ [] → downS s m = false → appL m g [payB (s.seq + 1) ops] = (0, g', m1) → FlOk (tookM s g' ops) m1) :
  Cl Tryz.prog f_store_Store_Write [ptr sb, .slice a ops.length c] w fun v w' => WrPost sb f s m ops w (keys L) v w' := by
 have hS := St.enter hh
 have hcnt := sizeO_cnt ops
 generalize hT : keys L = T0 at hS hG ha ⊢
 refine en_store_Store_Write rfl ?_
 refine jq ⟨?_⟩
 refine Cl.mono (SDown_spec hO hS.holds) ?_
 rintro _ w1 ⟨rfl, hS'⟩
 have hS := hS.call (L := L) hS'
 cases hd : (s.dead || m.off) with
 |true =>
  refine jq ⟨?_⟩
  refine Cl.mono (Sdone_spec hO hS.holds 7) ?_
  rw [done_down hd]
  rintro _ w2 ⟨rfl, L2, hO2, hS'⟩
  have hS := hS.call (L := L) hS'
  refine jq ⟨?_⟩
  exact ⟨7, _, _, L2, .down hd, rfl, hO2, hS⟩
 |false =>
  refine jq ⟨?_⟩
  refine Cl.mono (Ssize_spec ((hS.arrOld ha).sub (by simp)) hl (by omega)) ?_
  rintro _ w2 ⟨rfl, hS'⟩
  have hS := hS.call0 hS'
  by_cases hlong : 4096 < sizeO ops
  ·refine jq ⟨?_⟩
   exact ⟨2, _, _, L, .long hd hlong, rfl, hO, hS⟩
  ·by_cases he : ops = []
   ·have hl0 : ops.length = 0 := by rw [he]; rfl
    refine jq ⟨?_⟩
    exact ⟨0, _, _, L, .none hd he, rfl, hO, hS⟩
   ·have hl0 : 0 < ops.length := List.length_pos_iff.2 he
    have hpl := payB_len (s.seq + 1) ops ⟨by omega, by omega⟩ hl
    refine jq ⟨?_⟩
    obtain ⟨bl, R, LF, -, -, hc11, -⟩ := hO.lg hg
    refine SemW.draw tblOk mixed (fun w' => St w T0 L w') [12, 13] [0, 1, 2, 3, 4, 5, 6, 7, 8, 9, 10, 11, 12, 13] (by kernel_rfl) hS.drew ?_
    have hS := hS.drew
    refine jr ⟨?_⟩
    refine ldAll (fun w' h => hc11 _ h.holds) ?_
    refine jr ⟨?_⟩
    refine ldAll (fun w' h => hO.seqC h.holds) ?_
    refine jr ⟨?_⟩
    refine Cl.mono (Spay_spec (seq := s.seq + 1) ((hS.arrOld ha).sub (by simp)) ⟨by omega, by omega⟩ hl) ?_
    rintro _ w3 ⟨rfl, hS'⟩
    have hS := hS.call0 hS'
    refine Chk.mk hS ?_
    refine jr ⟨?_⟩
    refine hS.al ?_
    intro b30 w4 _ hS
    refine Chk.mk (hS.sub (kAb _ _)) ?_
    refine jr ⟨?_⟩
    have hfg := hF.get g.name
    obtain ⟨bl', hc', hcl⟩ := hO.append (hS.part (L := L)) hg (cap := 1) (ps := [payB (s.seq + 1) ops]) (hS.arr (b := b30) (nodup_chunk hS)) (by simp only [sumLen, kAh, kC, kCj, List.sum_nil, kAe, kAq]; omega) (by simp only [kAe, kAq]; omega) hF.fb (by omega)
    obtain rfl : bl = bl' := by
     have h1 := hc11 _ (hS.part (L := L))
     rw [hc' _ (hS.part (L := L))] at h1
     simp only [Option.some.injEq, Value.pointer.injEq, Addr.mk.injEq, and_true] at h1
     exact h1.symm
    refine Cl.mono hcl ?_
    rintro _ w5 ⟨rfl, L1, hO1, hS'⟩
    have hS := (hS.call (L := L) hS').sub (kAb _ _)
    have hok2 := fun g' m1 => hok g' m1 (by omega) he hd
    have hbad := fun g' m1 e => WrR.bad (s := s) (m := m) (ops := ops) hd (by omega) he g g' m1 e hg
    have hgood := fun g' m1 => WrR.ok (s := s) (m := m) (ops := ops) hd (by omega) he g g' m1 hg
    generalize appL m g [payB (s.seq + 1) ops] = q at hO1 hok2 hbad hgood ⊢
    obtain ⟨e1, g1, m1⟩ := q
    simp only at hO1 ⊢
    by_cases he1 : e1 = 0
    ·subst he1
     have hok3 := hok2 g1 m1 rfl
     have hgood2 := hgood g1 m1 rfl
     clear hok2 hbad hgood hok
     have hfl : ∀ w', FlPost sb f (tookM s g1 ops) m1 w T0 w' → ∃ s2 m2 L2, FlR (tookM s g1 ops) m1 s2 m2 ∧ StO sb f s2 m2 L2 ∧ St w T0 L2 w' := fun w' h => h
     obtain ⟨sq, es, cq, hsqM, ha1, hc1, Lh, hvh, a2, ca, La, hv, lv, Ll, hl2, gv, Lg, hgp, mb, Lm, hm, tm, et, ct, ks, ht, Lt, hts, LF, hFs⟩ := hO1
     simp only at hS hm hts hFs hl2 hgp hv hvh hsqM ht
     (repeat (refine jt ⟨?_⟩; refine hS.st rfl rfl ?_; intro _ hS)); refine jt ⟨?_⟩
     have hex : ∃ L2, StO sb f { s with log := some g1, seq := s.seq + 1 } m1 L2 ∧ St w T0 L2 _ := ⟨_, StO.mk (sb := sb) (s := { s with log := some g1, seq := s.seq + 1 }) sq es cq hsqM ha1 hc1 Lh hvh a2 ca La hv lv Ll hl2 gv Lg hgp mb Lm hm tm et ct ks ht Lt hts LF hFs, hS⟩
     clear hS hS'
     obtain ⟨L2, hO2, hS⟩ := hex
     refine Cl.mono (Stake_spec hO2 hS.holds (s.seq + 1) (ops := ops) (ha.stay hS) hr (by show szsE s.mem + _ ≤ _; omega) (by show s.mem.length + _ ≤ _; omega) (by show s.adds + _ ≤ _; omega)) ?_
     rintro _ w6 ⟨L3, hO3, hS'⟩
     have hS := hS.call (L := L2) hS'
     have hO3 : StO sb f (tookM s g1 ops) m1 L3 := hO3
     generalize tookM s g1 ops = s3 at hO3 hok3 hgood2 hfl
     clear hO2 hS'
     obtain ⟨mb3, Lm3, hM3, hcm3, hcl3⟩ := hO3.memP
     obtain ⟨A3, T3, hW3, hW4⟩ := hok3
     have hmn3 := hW3.mem.num
     clear hfl
     refine SemW.join (fun _ : Unit => [(0, ptr sb)]) (fun _ w' => FlPost sb f s3 m1 w T0 w') ?_ ?_
     ·refine jq ⟨?_⟩
      refine SemW.draw tblOk mixed (fun w' => St w T0 L3 w') [] [0, 1, 2, 3, 4, 5, 7, 8, 9, 10, 11, 6, 12] (by kernel_rfl) hS.drew ?_
      have hS := hS.drew
      refine jr ⟨?_⟩
      refine ldAll (fun w' h => (hcm3 _ h.holds).1) ?_
      refine jr ⟨?_⟩
      refine ldAll (fun w' h => hO3.memC h.holds) ?_
      refine jr ⟨?_⟩
      refine Cl.mono (MLen_spec hM3 (hcm3 _ hS.holds).2) ?_
      rintro _ w7 ⟨rfl, hS'⟩
      have hS := hS.call (L := L3) (hcl3 _ _ hS.holds hS')
      refine Chk.mk hS ?_
      refine jr ⟨?_⟩
      by_cases hmx : s3.memMax ≤ (s3.mem.length : Int)
      ·refine jq ⟨?_⟩
       refine SemW.draw tblOk mixed (fun w' => w'.cell? ⟨sb, 4, none⟩ = some (.int .i64 s3.fan)) [] [0, 1, 2, 3, 4, 6, 7, 8, 9, 10, 5, 11, 12] (by kernel_rfl) (hO3.fanC hS.drew.holds) ?_
       have hS := hS.drew
       refine jr ⟨?_⟩
       refine Cl.mono (Sflush_spec hO3 hS.holds (hG.step hS) hW3) ?_
       rintro _ w8 ⟨mk, hmk, rfl, L4, hO4, hS'⟩
       have hS := hS.call (L := L3) hS'
       obtain ⟨l5, v5, t5, g5, mm5, a5, hfst⟩ := flushM_fst s3 m1 mk
       have hfan : (flushM s3 m1 mk).2.1.fan = s3.fan := by rw [hfst]
       obtain ⟨hW5, hW6⟩ := hW4 mk hmk
       have hfl := FlR.fl (s := s3) (m := m1) mk hmk hmx
       have hco := fun s1 m1' h0 => FlR.co (s := s3) (m := m1) mk hmk hmx s1 m1' h0
       clear hfst
       generalize flushM s3 m1 mk = q at hO4 hfan hW5 hW6 hfl hco ⊢
       obtain ⟨e4, s4, m4⟩ := q
       simp only at hO4 hfan hW5 hW6 hfl hco ⊢
       rw [← hfan]
       refine Chk.mk (hO4.fanC hS.holds) ?_
       by_cases he4 : e4 = 0
       ·subst he4
        refine jr ⟨?_⟩
        refine ldAll (fun w' h => h) ?_
        refine jr ⟨?_⟩
        refine Cl.mono (hO4.upperP hS.holds hW5) ?_
        rintro _ w9 ⟨rfl, hS'⟩
        have hS := hS.call (L := L4) hS'
        refine Chk.mk (hO4.fanC hS.holds) ?_
        obtain ⟨A5, T5, hW7, hC7⟩ := hW6 rfl
        by_cases hup : s4.fan < (upperM s4 : Int)
        ·refine jr ⟨?_⟩
         refine jq ⟨?_⟩
         refine Cl.mono (Scompact_spec hO4 hS.holds (hG.step hS) hW7 hC7) ?_
         rintro _ w10 ⟨r, seen, mk2, h1, h2, h3, h4, rfl, L5, hO5, hS'⟩
         have hS := hS.call (L := L4) hS'
         refine jq ⟨?_⟩
         exact ⟨(), ⟨rfl, trivial⟩, _, _, L5, hco s4 m4 rfl r seen mk2 h1 h2 h3 h4, hO5, hS⟩
        ·refine jr ⟨?_⟩
         refine jq ⟨?_⟩
         exact ⟨(), ⟨rfl, trivial⟩, _, _, L4, hfl, hO4, hS⟩
       ·refine jr ⟨?_⟩
        refine jq ⟨?_⟩
        exact ⟨(), ⟨rfl, trivial⟩, _, _, L4, hfl, hO4, hS⟩
      ·refine jq ⟨?_⟩
       exact ⟨(), ⟨rfl, trivial⟩, _, _, L3, .no hmx, hO3, hS⟩
     ·clear hS
      rintro _ w7 ⟨s4, m4, L4, hfr, hO4, hS⟩
      refine jq ⟨?_⟩
      refine Cl.mono (Sdone_spec hO4 hS.holds 0) ?_
      rintro _ w8 ⟨rfl, L5, hO5, hS'⟩
      have hS := hS.call (L := L4) hS'
      refine jq ⟨?_⟩
      exact ⟨_, _, _, L5, hgood2 s4 m4 hfr, rfl, hO5, hS⟩
    ·refine jq ⟨?_⟩
     refine Cl.mono (Sdone_spec hO1 hS.holds e1) ?_
     rintro _ w6 ⟨rfl, L2, hO2, hS'⟩
     have hS := hS.call (L := L1) hS'
     refine jq ⟨?_⟩
     exact ⟨_, _, _, L2, hbad g1 m1 e1 rfl he1, rfl, hO2, hS⟩
structure Core (e : Nat) (s : StM) (m : FSm) (now : List RecM) (lk : Int → Option (List RecM)) : Prop where
 dead : s.dead = false
 up : Up m
 mem : MemF s.mem
 tab : ∀ x ∈ s.tabs, TabF x.2 ∧ x.2 ≠ []
 one : OneE (allE s)
 num : (allE s).length ≤ e
 nlen : now.length ≤ e
 adds : s.adds ≤ e
 good : Good s.v
 files : (s.v.files.map (·.2)).Perm (s.tabs.map (·.1))
 next : 1 ≤ s.v.next
 wal : s.v.wal < s.v.next
 lname : ∀ g, s.list = some g → ∃ j, g.name = lName j
 wname : ∀ g, s.log = some g → g.name = wName s.v.wal
 free : ∀ k, s.v.next ≤ k → k ≤ 4611686018427387904 → fget m (wName k) = none
 vseq : s.v.seq ≤ s.seq
 seq : 0 ≤ s.seq
 top : ∀ x ∈ allE s, x.s ≤ s.seq
 given : 0 ≤ s.given
 sqn : ∀ x ∈ s.seqs, 1 ≤ x.1 ∧ x.1 ≤ s.given ∧ x.2 ≤ s.seq
 sqnd : (s.seqs.map (·.1)).Nodup
 hts : s.hts.length ≤ 1099511627776
 view : View (allE s) s.seq now
 looks : ∀ n, match kget n s.seqs with
  |some q => ∃ rs, lk n = some rs ∧ View (allE s) q rs
  |none => lk n = none
structure Bud (A T X N Q : Nat) (s : StM) (m : FSm) : Prop where
 ft : FT A T m
 next : s.v.next ≤ X
 seq : s.seq ≤ Q
 given : s.given ≤ Q
 sn : s.seqs.length ≤ Q
 list : ∃ g, s.list = some g ∧ GoodLg g N
 log : ∃ g, s.log = some g ∧ GoodLg g N
theorem allE_eq (s : StM) : allE s = s.mem ++ tabsE s := rfl
theorem View.mem {E F : List EntM} {t : Int} {rs : List RecM} (hv : View E t rs) (h : ∀ x, x ∈ E ↔ x ∈ F) : View F t rs := hv.same fun _ _ => Vis.iff h
theorem vis_top {E : List EntM} {t u : Int} (ht : ∀ x ∈ E, x.s ≤ t) (hu : ∀ x ∈ E, x.s ≤ u) (k v : Bytes) : Vis E t k v ↔ Vis E u k v := by
 have key : ∀ {t u : Int}, (∀ x ∈ E, x.s ≤ u) → (∀ x ∈ E, x.s ≤ t) → Vis E t k v → Vis E u k v := by
  rintro t u hu ht ⟨x, hx, h2⟩
  exact ⟨x, ⟨hx.mem, hx.key, hu x hx.mem, fun y hy h1 _ => hx.top y hy h1 (ht y hy)⟩, h2⟩
 exact ⟨key hu ht, key ht hu⟩
theorem View.up {E : List EntM} {t u : Int} {rs : List RecM} (hv : View E t rs) (ht : ∀ x ∈ E, x.s ≤ t) (hu : ∀ x ∈ E, x.s ≤ u) : View E u rs := hv.same fun k v => vis_top ht hu k v
theorem takeO_mem (seq : Int) : ∀ (ops : List OpM) {l : List EntM}, Rise l → ∀ z ∈ takeO seq ops l, z ∈ l ∨ ∃ o ∈ ops, z = entOf seq o
 |[], l, _, z, hz => .inl hz
 |o :: ops, l, hr, z, hz => by
  rcases takeO_mem seq ops (insE_rise (x := entOf seq o) hr) z hz with h | ⟨p, hp, h⟩
  ·rcases (insE_with (x := entOf seq o) hr z).1 h with h | ⟨h, -⟩
   ·exact .inr ⟨o, by simp, h⟩
   ·exact .inl h
  ·exact .inr ⟨p, by simp [hp], h⟩
theorem take_view (seq : Int) (T : List EntM) (hT : ∀ z ∈ T, z.s < seq) : ∀ (ops : List OpM) {mem : List EntM} {now : List RecM}, Rise mem → OneE (mem ++ T) → (∀ z ∈ mem, z.s ≤ seq) → View (mem ++ T) seq now →
  OneE (takeO seq ops mem ++ T) ∧ (∀ z ∈ takeO seq ops mem, z.s ≤ seq) ∧ View (takeO seq ops mem ++ T) seq (writeL now ops) ∧ ∀ q rs, q < seq → View (mem ++ T) q rs → View (takeO seq ops mem ++ T) q rs
 |[], mem, now, hr, h1, hm, hv => ⟨h1, hm, hv, fun q rs _ h => h⟩
 |o :: ops, mem, now, hr, h1, hm, hv => by
  have hw := insE_with (x := entOf seq o) hr
  have hr1 := insE_rise (x := entOf seq o) hr
  have hm1 : ∀ z ∈ insE (entOf seq o) mem, z.s ≤ seq := fun z hz => by
   rcases (hw z).1 hz with h | ⟨h, -⟩
   ·rw [h]; exact kCb _
   ·exact hm z h
  have hW : With (mem ++ T) (entOf seq o) (insE (entOf seq o) mem ++ T) := fun z => by
   rw [kAl, kAl, hw z]
   constructor
   ·rintro ((h | ⟨h, h2⟩) | h)
    ·exact .inl h
    ·exact .inr ⟨.inl h, h2⟩
    ·exact .inr ⟨.inr h, fun e => by have := e.2; have h3 := hT z h; unfold entOf at this; simp only at this; omega⟩
   ·rintro (h | ⟨h | h, h2⟩)
    ·exact .inl (.inl h)
    ·exact .inl (.inr ⟨h, h2⟩)
    ·exact .inr h
  have hone : OneE (insE (entOf seq o) mem ++ T) := by
   have h2 := kBx.1 h1
   refine kBx.2 ⟨hr1.one, h2.2.1, fun a ha b hb hs => ?_⟩
   rcases (hw a).1 ha with h | ⟨h, -⟩
   ·subst h
    have := hs.2; have h3 := hT b hb; unfold entOf at this; simp only at this; omega
   ·exact h2.2.2 a h b hb hs
  have hs : ∀ z ∈ mem ++ T, z.s ≤ seq := fun z hz => by
   rcases kAl.1 hz with h | h
   ·exact hm z h
   ·have := hT z h; omega
  have hv1 := hv.put hone hW hs (kCb _)
  obtain ⟨i1, i2, i3, i4⟩ := take_view seq T hT ops hr1 hone hm1 hv1
  exact ⟨i1, i2, i3, fun q rs hq h => i4 q rs hq (h.old hW hq)⟩
theorem GoodLg.mono {g : LogM} {N M : Nat} (h : GoodLg g N) (hl : N ≤ M) : GoodLg g M := ⟨h.torn, h.dead, h.name, kBb h.num hl⟩
theorem Bud.mono {A T X N Q A' T' X' N' Q' : Nat} {s : StM} {m : FSm} (h : Bud A T X N Q s m) (h1 : A ≤ A') (h2 : T ≤ T') (h3 : X ≤ X') (h4 : N ≤ N') (h5 : Q ≤ Q') : Bud A' T' X' N' Q' s m := by
 obtain ⟨g, hg, hg2⟩ := h.list
 obtain ⟨g', hg', hg2'⟩ := h.log
 exact ⟨h.ft.mono h1 h2, by have := h.next; omega, by have := h.seq; omega, by have := h.given; omega, by have := h.sn; omega, ⟨g, hg, hg2.mono h4⟩, ⟨g', hg', hg2'.mono h4⟩⟩
theorem flat_len {α : Type} : ∀ (ls : List (List α)), (∀ l ∈ ls, l ≠ []) → ls.length ≤ ls.flatten.length
 |[], _ => kAg _
 |l :: ls, h => by
  have := flat_len ls fun l hl => h l (by simp [hl])
  have h2 := List.length_pos_iff.2 (h l (by simp))
  simp only [kAe, kBi, kAa]; omega
theorem Core.cnt {e : Nat} {s : StM} {m : FSm} {now : List RecM} {lk : Int → Option (List RecM)} (h : Core e s m now lk) : s.mem.length ≤ e ∧ s.tabs.length ≤ e ∧ (tabsE s).length ≤ e ∧ s.v.files.length ≤ e := by
 have h1 := h.num
 rw [allE_eq, kAa] at h1
 have h2 := flat_len (s.tabs.map (·.2)) fun l hl => by
  obtain ⟨x, hx, rfl⟩ := kAm.1 hl
  exact (h.tab x hx).2
 rw [kAv] at h2
 have h3 : s.tabs.length ≤ (tabsE s).length := h2
 have h4 := h.files.length_eq
 rw [kAv, kAv] at h4
 omega
theorem Core.goodV {e A T X N Q : Nat} {s : StM} {m : FSm} {now : List RecM} {lk : Int → Option (List RecM)} (h : Core e s m now lk) (hb : Bud A T X N Q s m) (he : e ≤ 1048576) (hX : X ≤ 1152921504606846976) (hQ : Q ≤ 1152921504606846976) : GoodV s.v := by
 have h1 := h.cnt
 have h2 := h.wal
 have h3 := hb.next
 have h4 := h.vseq
 have h5 := hb.seq
 exact ⟨h.good, by omega, by omega, by omega, by omega⟩
theorem Core.wr {e A T X N Q : Nat} {s : StM} {m : FSm} {now : List RecM} {lk : Int → Option (List RecM)} (h : Core e s m now lk) (hb : Bud A T X N Q s m) (he : e ≤ 1048576) (hX : X ≤ 1152921504606846976) (hQ : Q ≤ 1152921504606846976) (hN : N ≤ 2305843009213693952) (hA : A ≤ 2305843009213693952) (hT : 536870912 ≤ T ∧ T + 1048576 ≤ 1099511627776) : SWr A T s m := by
 have h1 := h.cnt
 obtain ⟨g, hg, hg2⟩ := hb.list
 have h3 := hb.next
 have h5 := hb.seq
 have h6 := hg2.num
 exact ⟨h.mem, h.goodV hb he hX hQ, by omega, by omega, ⟨h.seq, by omega⟩, ⟨g, hg, by omega⟩, hb.ft, hA, hT.1, hT.2, h.hts⟩
theorem Core.co {e : Nat} {s : StM} {m : FSm} {now : List RecM} {lk : Int → Option (List RecM)} (h : Core e s m now lk) (he : e ≤ 1048576) (hs : s.seqs.length ≤ 1099511627776) : SCo s :=
 ⟨fun x hx => (h.tab x hx).1, (kBx.1 h.one).2.1, by have := h.cnt; omega, h.files, hs⟩
theorem Core.keys {e : Nat} {s : StM} {m : FSm} {now : List RecM} {lk : Int → Option (List RecM)} (h : Core e s m now lk) : (s.tabs.map (·.1)).Nodup ∧ ∀ n ∈ s.tabs.map (·.1), 1 ≤ n ∧ n < s.v.next := by
 refine ⟨h.files.nodup_iff.1 h.good.files.2, fun n hn => ?_⟩
 obtain ⟨f, hf, rfl⟩ := kAm.1 (h.files.mem_iff.2 hn)
 obtain ⟨h1, h2⟩ := h.good.files.1 f hf
 exact ⟨(okAdd_iff.1 h1).1, h2⟩
theorem Core.rd {e A T X N Q : Nat} {s : StM} {m : FSm} {now : List RecM} {lk : Int → Option (List RecM)} (h : Core e s m now lk) (hb : Bud A T X N Q s m) (he : e ≤ 1048576) (hX : X ≤ 1152921504606846976) : SRd s := by
 have h1 := h.cnt
 have h2 := h.num
 refine ⟨h.mem.rise, h.mem.seqs, fun x hx => (h.tab x hx).1, h.one, by omega, by omega, fun x hx => ?_⟩
 have h3 := h.keys.2 x.1 (kAw hx)
 have h4 := hb.next
 omega
theorem Core.lookq {e : Nat} {s s' : StM} {m m' : FSm} {now : List RecM} {lk : Int → Option (List RecM)} (h : Core e s m now lk) (hs : s'.seqs = s.seqs) (hv : ∀ q rs, q ∈ s.seqs.map (·.2) → q ≤ s.seq → View (allE s) q rs → View (allE s') q rs) : ∀ n, match kget n s'.seqs with
  |some q => ∃ rs, lk n = some rs ∧ View (allE s') q rs
  |none => lk n = none := by
 intro n
 have := h.looks n
 rw [hs]
 cases hk : kget n s.seqs with
 |none => rw [hk] at this; exact this
 |some q =>
  rw [hk] at this
  obtain ⟨rs, h1, h2⟩ := this
  have hm := kget_mem hk
  exact ⟨rs, h1, hv q rs (kAw hm) (h.sqn _ hm).2.2 h2⟩
theorem numsFrom_vals {α : Type} : ∀ (cs : List α) (n : Int), (numsFrom n cs).map (·.2) = cs
 |[], _ => rfl
 |c :: cs, n => by rw [numsFrom, kAh, numsFrom_vals cs]
theorem Core.take {e : Nat} {s : StM} {m m1 : FSm} {now : List RecM} {lk : Int → Option (List RecM)} (h : Core e s m now lk) (ops : List OpM) (g' : LogM) (hup : Up m1) (hnm : g'.name = wName s.v.wal) (hfr : ∀ k, s.v.next ≤ k → k ≤ 4611686018427387904 → fget m1 (wName k) = none) (hsz : sizeO ops ≤ 4096) (hsq : s.seq + 1 ≤ 4611686018427387904) (he : e + ops.length ≤ 1048576) :
  Core (e + ops.length) (tookM s g' ops) m1 (writeL now ops) lk := by
 have hT : ∀ z ∈ tabsE s, z.s < s.seq + 1 := fun z hz => by have := h.top z (by rw [allE_eq]; exact kBp _ hz); omega
 have hm : ∀ z ∈ s.mem, z.s ≤ s.seq + 1 := fun z hz => by have := h.top z (by rw [allE_eq]; exact kBm _ hz); omega
 obtain ⟨t1, t2, t3, t4⟩ := take_view (s.seq + 1) (tabsE s) hT ops h.mem.rise h.one hm (h.view.up h.top fun x hx => by have := h.top x hx; omega)
 have hsz2 := takeO_sz (s.seq + 1) ops s.mem
 have hmem := takeO_mem (s.seq + 1) ops h.mem.rise
 have hnum := h.num
 rw [allE_eq, kAa] at hnum
 have hs0 := h.seq
 have hall : allE (tookM s g' ops) = takeO (s.seq + 1) ops s.mem ++ tabsE s := rfl
 refine ⟨h.dead, hup, ⟨takeO_rise _ ops h.mem.rise, fun x hx hd => ?_, fun x hx => ?_, fun x hx => ?_, ?_⟩, h.tab, t1, ?_, (by have := writeL_len now ops; have := h.nlen; omega), ?_, h.good, h.files, h.next, h.wal, h.lname, fun g hg => by cases hg; exact hnm, hfr, ?_, ?_, ?_, h.given, ?_, h.sqnd, h.hts, t3, ?_⟩
 ·rcases hmem x hx with h1 | ⟨o, ho, rfl⟩
  ·exact h.mem.fine x h1 hd
  ·unfold entOf at hd ⊢; simp only at hd ⊢; rw [hd]; rfl
 ·rcases hmem x hx with h1 | ⟨o, ho, rfl⟩
  ·exact h.mem.seqs x h1
  ·unfold entOf; simp only; omega
 ·rcases hmem x hx with h1 | ⟨o, ho, rfl⟩
  ·exact h.mem.sz x h1
  ·have := entOf_sz (s.seq + 1) o
   have := szO_le ho
   omega
 ·show (takeO (s.seq + 1) ops s.mem).length ≤ _; omega
 ·rw [hall, kAa]; omega
 ·show s.adds + ops.length ≤ _; have := h.adds; omega
 ·show s.v.seq ≤ s.seq + 1; have := h.vseq; omega
 ·show 0 ≤ s.seq + 1; omega
 ·intro x hx
  show x.s ≤ s.seq + 1
  rw [hall, kAl] at hx
  rcases hx with hx | hx
  ·exact t2 x hx
  ·have := hT x hx; omega
 ·intro x hx
  have := h.sqn x hx
  show 1 ≤ x.1 ∧ x.1 ≤ s.given ∧ x.2 ≤ s.seq + 1
  omega
 ·exact h.lookq rfl (m' := m1) fun q rs _ hq hv => t4 q rs (by omega) hv
theorem Core.flush {e : Nat} {s : StM} {m : FSm} {now : List RecM} {lk : Int → Option (List RecM)} (h : Core e s m now lk) {mk : List (Int × List EntM)} {g : LogM} {m1 : FSm} {nx : VM} {g' : LogM} {v' : VM} {m2 m3 : FSm} (ho : FlOut s m mk g m1 nx g' v' m2 m3) (hp : mk.Perm (numsFrom s.v.next (pieces 64 s.mem))) (hg : s.list = some g) (hn : s.v.next ≤ 1152921504606846976) (g2 : LogM) (hg2 : g2.name = wName (s.v.next + (pieces 64 s.mem).length)) :
  Core e { s with list := some g', v := v', tabs := s.tabs ++ mk, mem := [], adds := 0, log := some g2 } m3 now lk := by
 have hE : (allE { s with list := some g', v := v', tabs := s.tabs ++ mk, mem := [], adds := 0, log := some g2 }).Perm (allE s) := by
  show (([] : List EntM) ++ ((s.tabs ++ mk).map (fun x : Int × List EntM => x.2)).flatten).Perm (s.mem ++ (s.tabs.map (fun x : Int × List EntM => x.2)).flatten)
  rw [kBj, kAi, kBy]
  refine kCi.trans (List.Perm.append_right _ ?_)
  have h1 := (List.Perm.map (fun x : Int × List EntM => x.2) hp).flatten
  rw [numsFrom_vals, pieces_flat (by omega)] at h1
  exact h1
 have hk := h.next
 have hcs := pieces_cnt 64 s.mem (by omega)
 refine ⟨h.dead, ho.up, ⟨List.Pairwise.nil, fun x hx => (by cases hx), fun x hx => (by cases hx), fun x hx => (by cases hx), kAg _⟩, fun x hx => ?_, OneE.perm h.one hE.symm, by rw [hE.length_eq]; exact h.num, h.nlen, kAg _, ho.ed.good.good, ?_, ?_, ?_, ?_, ?_, ?_, ?_, h.seq, fun x hx => h.top x (hE.mem_iff.1 hx), h.given, h.sqn, h.sqnd, h.hts, h.view.mem fun x => (hE.mem_iff).symm, h.lookq rfl (m' := m3) fun q rs _ _ hv => hv.mem fun x => (hE.mem_iff).symm⟩
 ·rcases kAl.1 hx with hx | hx
  ·exact h.tab x hx
  ·have h2 : x.2 ∈ pieces 64 s.mem := by
    have := kAw (f := (·.2)) (hp.mem_iff.1 hx)
    rwa [numsFrom_vals] at this
   exact ⟨h.mem.tab x.2 h2, (pieces_mem (by omega) h2).1⟩
 ·show (v'.files.map (·.2)).Perm ((s.tabs ++ mk).map (·.1))
  rw [ho.ed.files, kAi]
  refine (ho.files.map _).trans ?_
  rw [kAi]
  refine List.Perm.append h.files ?_
  rw [filesOf_nums]
  exact (hp.map _).symm
 ·show 1 ≤ v'.next
  have := ho.ed.next; have := ho.next; omega
 ·show v'.wal < v'.next
  have := ho.ed.next; have := ho.next; have := ho.ed.wal; have := ho.wal; omega
 ·intro g3 hg3
  cases hg3
  exact ho.ed.lname (h.lname g hg)
 ·intro g3 hg3
  cases hg3
  show g2.name = wName v'.wal
  rw [hg2, ho.ed.wal, ho.wal]
 ·intro k h1 h2
  have h1 : v'.next ≤ k := h1
  have h3 := ho.ed.next
  have h4 := ho.next
  rw [ho.del]
  by_cases hkw : wName k = wName s.v.wal
  ·rw [if_pos hkw]
  ·rw [if_neg hkw, ho.ed.keep (h.lname g hg) (wName k) (fun j => w_ne_l k j) (w_ne k).1 (w_ne k).2, ho.same _ fun i _ _ => w_ne_t k i]
   exact h.free k (by omega) h2
 ·show v'.seq ≤ s.seq
  rw [ho.ed.seq, ho.seq]; exact kCb _
theorem Core.compact {e : Nat} {s : StM} {m : FSm} {now : List RecM} {lk : Int → Option (List RecM)} (h : Core e s m now lk) (hm : s.mem = []) {r : List EntM} {seen : List Int} (h1 : r.Perm (tabsE s)) (h2 : Rise r) (h3 : seen.Perm (seenS s)) {mk : List (Int × List EntM)} {g : LogM} {m1 : FSm} {nx : VM} {g' : LogM} {v' : VM} {m2 m3 : FSm} (ho : CoOut s m (trimE seen r) mk g m1 nx g' v' m2 m3) (hp : mk.Perm (numsFrom s.v.next (pieces 64 (trimE seen r)))) (hg : s.list = some g) (hmem : MemF (trimE seen r)) :
  Core e { s with list := some g', v := v', tabs := mk } m3 now lk := by
 have hA : (allE s) = tabsE s := by rw [allE_eq, hm, kBj]
 have hE : (allE { s with list := some g', v := v', tabs := mk }).Perm (trimE seen r) := by
  show (s.mem ++ (mk.map (·.2)).flatten).Perm _
  rw [hm, kBj]
  have h4 := (List.Perm.map (fun x : Int × List EntM => x.2) hp).flatten
  rw [numsFrom_vals, pieces_flat (by omega)] at h4
  exact h4
 have hk := h.next
 have htop : ∀ x ∈ r, x.s ≤ s.seq := fun x hx => h.top x (by rw [hA]; exact h1.mem_iff.1 hx)
 have hview : ∀ q rs, (q ∈ seen ∨ ∀ x ∈ r, x.s ≤ q) → View (allE s) q rs → View (allE { s with list := some g', v := v', tabs := mk }) q rs := fun q rs hq hv => by
  have hv1 : View r q rs := hv.mem fun x => by rw [hA]; exact h1.mem_iff.symm
  have hv2 : View (trimE seen r) q rs := hv1.same fun k v => trimE_vis h2 seen hq k v
  exact hv2.mem fun x => hE.mem_iff.symm
 refine ⟨h.dead, ho.up, by show MemF s.mem; exact h.mem, fun x hx => ?_, OneE.perm (Rise.one (trimE_rise h2 seen)) hE.symm, ?_, h.nlen, h.adds, ho.ed.good.good, ?_, ?_, ?_, ?_, ?_, ?_, ?_, h.seq, fun x hx => htop x (trimE_sub seen x (hE.mem_iff.1 hx)), h.given, h.sqn, h.sqnd, h.hts, hview _ _ (.inr htop) h.view, h.lookq rfl (m' := m3) fun q rs hq _ hv => hview q rs (.inl (h3.mem_iff.2 hq)) hv⟩
 ·have h4 : x.2 ∈ pieces 64 (trimE seen r) := by
   have := kAw (f := (·.2)) (hp.mem_iff.1 hx)
   rwa [numsFrom_vals] at this
  exact ⟨hmem.tab x.2 h4, (pieces_mem (by omega) h4).1⟩
 ·rw [hE.length_eq]
  have h4 := (trimE_sublist seen r).length_le
  have h5 := h1.length_eq
  have h6 := h.num
  rw [hA] at h6; omega
 ·show (v'.files.map (·.2)).Perm (mk.map (·.1))
  rw [ho.ed.files]
  refine (ho.files.map _).trans ?_
  rw [filesOf_nums]
  exact (hp.map _).symm
 ·show 1 ≤ v'.next
  have := ho.ed.next; have := ho.next; omega
 ·show v'.wal < v'.next
  have := ho.ed.next; have := ho.next; have := ho.ed.wal; have := ho.wal; have := h.wal; omega
 ·intro g3 hg3
  cases hg3
  exact ho.ed.lname (h.lname g hg)
 ·intro g3 hg3
  show g3.name = wName v'.wal
  rw [h.wname g3 hg3, ho.ed.wal, ho.wal]
 ·intro k h1 h2
  have h1 : v'.next ≤ k := h1
  have h3 := ho.ed.next
  have h4 := ho.next
  rw [ho.del _ fun hm => by obtain ⟨j, -, hj⟩ := kAm.1 hm; exact w_ne_t k j hj.symm, ho.ed.keep (h.lname g hg) (wName k) (fun j => w_ne_l k j) (w_ne k).1 (w_ne k).2, ho.same _ fun i _ _ => w_ne_t k i]
  exact h.free k (by omega) h2
 ·show v'.seq ≤ s.seq
  rw [ho.ed.seq, ho.seq]; exact h.vseq
inductive FsR (s : StM) (m : FSm) : Int → StM → FSm → Prop where
 |down (h : downS s m = true) : FsR s m 7 (deadS s) m
 |up (h : downS s m = false) (mk : List (Int × List EntM)) (hp : mk.Perm (numsFrom s.v.next (pieces 64 s.mem))) (e : Int) (s1 : StM) (m1 : FSm) (h0 : flushM s m mk = (e, s1, m1)) : FsR s m (doneM s1 m1 e).1 (doneM s1 m1 e).2 m1
inductive CpR (s : StM) (m : FSm) : Int → StM → FSm → Prop where
 |down (h : downS s m = true) : CpR s m 7 (deadS s) m
 |bad (h : downS s m = false) (mk : List (Int × List EntM)) (hp : mk.Perm (numsFrom s.v.next (pieces 64 s.mem))) (e : Int) (s1 : StM) (m1 : FSm) (h0 : flushM s m mk = (e, s1, m1)) (he : e ≠ 0) : CpR s m (doneM s1 m1 e).1 (doneM s1 m1 e).2 m1
 |up (h : downS s m = false) (mk : List (Int × List EntM)) (hp : mk.Perm (numsFrom s.v.next (pieces 64 s.mem))) (s1 : StM) (m1 : FSm) (h0 : flushM s m mk = (0, s1, m1)) (r : List EntM) (seen : List Int) (mk2 : List (Int × List EntM)) (h1 : r.Perm (tabsE s1)) (h2 : Rise r) (h3 : seen.Perm (seenS s1))
   (h4 : mk2.Perm (numsFrom s1.v.next (pieces 64 (trimE seen r)))) (e : Int) (s2 : StM) (m2 : FSm) (h5 : compactM s1 m1 (trimE seen r) mk2 = (e, s2, m2)) : CpR s m (doneM s2 m2 e).1 (doneM s2 m2 e).2 m2
def RPost (sb f : Nat) (R : Int → StM → FSm → Prop) (w : World) (T0 : List Nat) (v : Value) (w' : World) : Prop := ∃ e s' m' L', R e s' m' ∧ v = .int .i64 e ∧ StO sb f s' m' L' ∧ St w T0 L' w'
set_option maxHeartbeats 4000000 in
theorem StFlush_spec {w : World} {sb f A T : Nat} {s : StM} {m : FSm} {L : Heap} (hO : StO sb f s m L) (hh : Holds L w) (hG : Glob w (keys L)) (hW : downS s m = false → SWr A T s m) :
  Cl Tryz.prog f_store_Store_Flush [ptr sb] w fun v w' => RPost sb f (FsR s m) w (keys L) v w' := by
 have hS := St.enter hh
 generalize hT : keys L = T0 at hS hG ⊢
 refine en_store_Store_Flush rfl ?_
 refine jq ⟨?_⟩
 refine Cl.mono (SDown_spec hO hS.holds) ?_
 rintro _ w1 ⟨rfl, hS'⟩
 have hS := hS.call (L := L) hS'
 cases hd : (s.dead || m.off) with
 |true =>
  refine jq ⟨?_⟩
  refine Cl.mono (Sdone_spec hO hS.holds 7) ?_
  rw [done_down hd]
  rintro _ w2 ⟨rfl, L2, hO2, hS'⟩
  have hS := hS.call (L := L) hS'
  refine jq ⟨?_⟩
  exact ⟨7, _, _, L2, .down hd, rfl, hO2, hS⟩
 |false =>
  refine jq ⟨?_⟩
  refine Cl.mono (Sflush_spec hO hS.holds (hG.step hS) (hW hd)) ?_
  rintro _ w2 ⟨mk, hmk, rfl, L2, hO2, hS'⟩
  have hS := hS.call (L := L) hS'
  have hR := fun e s1 m1 h0 => FsR.up (s := s) (m := m) hd mk hmk e s1 m1 h0
  generalize flushM s m mk = q at hO2 hR ⊢
  obtain ⟨e, s1, m1⟩ := q
  simp only at hO2 ⊢
  refine jq ⟨?_⟩
  refine Cl.mono (Sdone_spec hO2 hS.holds e) ?_
  rintro _ w3 ⟨rfl, L3, hO3, hS'⟩
  have hS := hS.call (L := L2) hS'
  refine jq ⟨?_⟩
  exact ⟨_, _, _, L3, hR e s1 m1 rfl, rfl, hO3, hS⟩
set_option maxHeartbeats 4000000 in
theorem StCompact_spec {w : World} {sb f A T : Nat} {s : StM} {m : FSm} {L : Heap} (hO : StO sb f s m L) (hh : Holds L w) (hG : Glob w (keys L)) (hW : downS s m = false → SWr A T s m)
  (hC : ∀ mk, downS s m = false → mk.Perm (numsFrom s.v.next (pieces 64 s.mem)) → (flushM s m mk).1 = 0 → ∃ A2 T2, SWr A2 T2 (flushM s m mk).2.1 (flushM s m mk).2.2 ∧ SCo (flushM s m mk).2.1) :
  Cl Tryz.prog f_store_Store_Compact [ptr sb] w fun v w' => RPost sb f (CpR s m) w (keys L) v w' := by
 have hS := St.enter hh
 generalize hT : keys L = T0 at hS hG ⊢
 refine en_store_Store_Compact rfl ?_
 refine jq ⟨?_⟩
 refine Cl.mono (SDown_spec hO hS.holds) ?_
 rintro _ w1 ⟨rfl, hS'⟩
 have hS := hS.call (L := L) hS'
 cases hd : (s.dead || m.off) with
 |true =>
  refine jq ⟨?_⟩
  refine Cl.mono (Sdone_spec hO hS.holds 7) ?_
  rw [done_down hd]
  rintro _ w2 ⟨rfl, L2, hO2, hS'⟩
  have hS := hS.call (L := L) hS'
  refine jq ⟨?_⟩
  exact ⟨7, _, _, L2, .down hd, rfl, hO2, hS⟩
 |false =>
  refine jq ⟨?_⟩
  refine Cl.mono (Sflush_spec hO hS.holds (hG.step hS) (hW hd)) ?_
  rintro _ w2 ⟨mk, hmk, rfl, L2, hO2, hS'⟩
  have hS := hS.call (L := L) hS'
  have hR := fun e s1 m1 h0 => CpR.bad (s := s) (m := m) hd mk hmk e s1 m1 h0
  have hR2 := fun s1 m1 h0 => CpR.up (s := s) (m := m) hd mk hmk s1 m1 h0
  have hC2 := hC mk hd hmk
  generalize flushM s m mk = q at hO2 hR hR2 hC2 ⊢
  obtain ⟨e, s1, m1⟩ := q
  simp only at hO2 hC2 ⊢
  by_cases he : e = 0
  ·subst he
   obtain ⟨A2, T2, hW2, hC3⟩ := hC2 rfl
   refine jq ⟨?_⟩
   refine Cl.mono (Scompact_spec hO2 hS.holds (hG.step hS) hW2 hC3) ?_
   rintro _ w3 ⟨r, seen, mk2, h1, h2, h3, h4, rfl, L3, hO3, hS'⟩
   have hS := hS.call (L := L2) hS'
   have hR3 := fun e s2 m2 h5 => hR2 s1 m1 rfl r seen mk2 h1 h2 h3 h4 e s2 m2 h5
   generalize compactM s1 m1 (trimE seen r) mk2 = q at hO3 hR3 ⊢
   obtain ⟨e2, s2, m2⟩ := q
   simp only at hO3 ⊢
   refine jq ⟨?_⟩
   refine Cl.mono (Sdone_spec hO3 hS.holds e2) ?_
   rintro _ w4 ⟨rfl, L4, hO4, hS'⟩
   have hS := hS.call (L := L3) hS'
   refine jq ⟨?_⟩
   exact ⟨_, _, _, L4, hR3 e2 s2 m2 rfl, rfl, hO4, hS⟩
  ·refine jq ⟨?_⟩
   refine Cl.mono (Sdone_spec hO2 hS.holds e) ?_
   rintro _ w3 ⟨rfl, L3, hO3, hS'⟩
   have hS := hS.call (L := L2) hS'
   refine jq ⟨?_⟩
   exact ⟨_, _, _, L3, hR e s1 m1 rfl he, rfl, hO3, hS⟩
theorem mk_keys {e : Nat} {s : StM} {m : FSm} {now : List RecM} {lk : Int → Option (List RecM)} (h : Core e s m now lk) {cs : List (List EntM)} {mk : List (Int × List EntM)} (hp : mk.Perm (numsFrom s.v.next cs)) : (mk.map (·.1)).Nodup ∧ ∀ n ∈ mk.map (·.1), n ∉ s.tabs.map (·.1) := by
 refine ⟨(hp.map _).nodup_iff.2 (numsFrom_nodup _ _), fun n hn hn2 => ?_⟩
 have h1 := (numsFrom_keys cs s.v.next n).1 ((hp.map _).mem_iff.1 hn)
 have h2 := h.keys.2 n hn2
 omega
theorem flush_inv {e A T X N Q : Nat} {s : StM} {m : FSm} {now : List RecM} {lk : Int → Option (List RecM)} (h : Core e s m now lk) (hb : Bud A T X N Q s m) (he : e ≤ 1048576) (hT : 536870912 ≤ T ∧ T + 1048576 ≤ 1099511627776) (hX : X ≤ 576460752303423488) (hQ : Q ≤ 576460752303423488) (hN : 4200 ≤ N)
  {mk : List (Int × List EntM)} (hp : mk.Perm (numsFrom s.v.next (pieces 64 s.mem))) :
  ∃ s1 m1, flushM s m mk = (0, s1, m1) ∧ Core e s1 m1 now lk ∧ Bud (A + 3 * e + 8) (T + 65544) (X + e + 2) (N + 1) Q s1 m1 ∧ s1.mem = [] ∧ s1.given = s.given := by
 by_cases hne : s.mem = []
 ·refine ⟨s, m, by unfold flushM; simp [hne], h, hb.mono (by omega) (by omega) (by omega) (by omega) (kAd _), hne, rfl⟩
 obtain ⟨g, hg, hgl⟩ := hb.list
 have hc := h.cnt
 have hn := hb.next
 have hq := hb.seq
 obtain ⟨m1, nx, g', v', m2, m3, ho, hft⟩ := flush_up mk h.up hb.ft ⟨hT.1, by omega⟩ hg hgl (h.goodV hb he (by omega) (by omega)) h.next (by omega) (by omega) h.mem hne ⟨h.vseq, by omega⟩
 have hcs := pieces_cnt 64 s.mem (by omega)
 obtain ⟨k1, k2⟩ := mk_keys h hp
 have hi : i64r (s.v.next + (pieces 64 s.mem).length) := by have := h.next; exact ⟨by omega, by omega⟩
 have hw0 : fget m2 (wName (s.v.next + (pieces 64 s.mem).length)) = none := by
  rw [ho.ed.keep (h.lname g hg) _ (fun j => w_ne_l _ j) (w_ne _).1 (w_ne _).2, ho.same _ fun i _ _ => w_ne_t _ i]
  exact h.free _ (by omega) (by omega)
 have hol := openL_none ho.ed.up hw0
 have hout := ho.out
 rw [tabs_flush k1 k2] at hout
 have hcore := h.flush ho hp hg (by omega) (openL m2 (wName (s.v.next + (pieces 64 s.mem).length))) rfl
 refine ⟨_, m3, hout, hcore, ⟨hft.mono (by omega) (kAd _), ?_, hb.seq, hb.given, hb.sn, ⟨g', rfl, ho.ed.lg N hgl hN⟩, ⟨_, rfl, ?_⟩⟩, rfl, rfl⟩
 ·show v'.next ≤ _
  have := ho.ed.next; have := ho.next; omega
 ·rw [hol]; exact ⟨rfl, rfl, named_w hi, kAg _⟩
theorem compact_inv {e A T X N Q : Nat} {s : StM} {m : FSm} {now : List RecM} {lk : Int → Option (List RecM)} (h : Core e s m now lk) (hb : Bud A T X N Q s m) (hm : s.mem = []) (he : e ≤ 1048576) (hT : 536870912 ≤ T ∧ T + 1048576 ≤ 1099511627776) (hX : X ≤ 576460752303423488) (hQ : Q ≤ 1099511627776) (hN : 4200 ≤ N)
  {r : List EntM} {seen : List Int} (h1 : r.Perm (tabsE s)) (h2 : Rise r) (h3 : seen.Perm (seenS s)) {mk : List (Int × List EntM)} (hp : mk.Perm (numsFrom s.v.next (pieces 64 (trimE seen r)))) :
  ∃ d s1 m1, compactM s m (trimE seen r) mk = (d, s1, m1) ∧ Core e s1 m1 now lk ∧ Bud (A + 4 * e + 8) (T + 65544) (X + e + 2) (N + 1) Q s1 m1 ∧ s1.mem = [] ∧ d ≠ 7 ∧ s1.given = s.given := by
 by_cases hne : s.v.files = []
 ·refine ⟨0, s, m, by unfold compactM; simp [hne], h, hb.mono (by omega) (by omega) (by omega) (by omega) (kAd _), hm, by decide, rfl⟩
 obtain ⟨g, hg, hgl⟩ := hb.list
 have hc := h.cnt
 have hn := hb.next
 have hq := hb.seq
 have hw := h.wal
 have hvs := h.vseq
 have hmf := (h.co he (by have := hb.sn; omega)).mem h1 h2 seen
 have hl1 := (trimE_sublist seen r).length_le
 have hl2 := h1.length_eq
 obtain ⟨m1, nx, g', v', m2, m3, ho, hft⟩ := compact_up mk h.up hb.ft ⟨hT.1, by omega⟩ hg hgl (h.goodV hb he (by omega) (by omega)) h.next (by omega) (by omega) (by omega) (by omega) hmf hne
 have hcs := pieces_cnt 64 (trimE seen r) (by omega)
 obtain ⟨k1, k2⟩ := mk_keys h hp
 have hout := ho.out
 rw [tabs_compact h.keys.1 k1 k2 h.files] at hout
 have hcore := h.compact hm h1 h2 h3 ho hp hg hmf
 obtain ⟨g2, hg2, hgl2⟩ := hb.log
 refine ⟨_, _, m3, hout, hcore, ⟨hft.mono (by omega) (kAd _), ?_, hb.seq, hb.given, hb.sn, ⟨g', rfl, ho.ed.lg N hgl hN⟩, ⟨g2, hg2, hgl2.mono (by omega)⟩⟩, hm, ho.r7, rfl⟩
 show v'.next ≤ _
 have := ho.ed.next; have := ho.next; omega
structure Inv (c e : Nat) (s : StM) (m : FSm) (now : List RecM) (lk : Int → Option (List RecM)) : Prop where
 core : Core e s m now lk
 bud : Bud (c * 2097152) (536870912 + c * 262144) (c * 2097152) (4200 + 4 * c) c s m
 c1 : c ≤ 1048576
 e1 : e ≤ 262144
theorem Inv.down {c e : Nat} {s : StM} {m : FSm} {now : List RecM} {lk : Int → Option (List RecM)} (h : Inv c e s m now lk) : downS s m = false := by unfold downS; rw [h.core.dead, h.core.up.off]; rfl
theorem Core.more {e e' : Nat} {s : StM} {m : FSm} {now : List RecM} {lk : Int → Option (List RecM)} (h : Core e s m now lk) (hl : e ≤ e') : Core e' s m now lk := { h with num := kBb h.num hl, nlen := kBb h.nlen hl, adds := kBb h.adds hl }
theorem Inv.more {c c' e e' : Nat} {s : StM} {m : FSm} {now : List RecM} {lk : Int → Option (List RecM)} (h : Inv c e s m now lk) (hc : c ≤ c') (he : e ≤ e') (hc1 : c' ≤ 1048576) (he1 : e' ≤ 262144) : Inv c' e' s m now lk :=
 ⟨h.core.more he, h.bud.mono (by omega) (by omega) (by omega) (by omega) hc, hc1, he1⟩
theorem doneM_up {e : Nat} {s : StM} {m : FSm} {now : List RecM} {lk : Int → Option (List RecM)} (h : Core e s m now lk) {z : Int} (hz : z ≠ 7) : doneM s m z = (z, s) := by
 unfold doneM
 rw [h.dead, h.up.off]
 rw [if_neg (by simp [hz])]
 have := h.dead
 cases s
 simp only at this
 subst this
 rfl
theorem take_inv {c e : Nat} {s : StM} {m : FSm} {now : List RecM} {lk : Int → Option (List RecM)} (h : Inv c e s m now lk) {ops : List OpM} (hsz : sizeO ops ≤ 4096) (he : e + ops.length ≤ 262144) {g : LogM} (hg : s.log = some g) :
  ∃ g' m1, appL m g [payB (s.seq + 1) ops] = (0, g', m1) ∧ Core (e + ops.length) (tookM s g' ops) m1 (writeL now ops) lk ∧ Bud (c * 2097152 + 2) (536870912 + c * 262144 + 16384) (c * 2097152) (4200 + 4 * c + 1) (c + 1) (tookM s g' ops) m1 := by
 obtain ⟨g0, hg0, hgl⟩ := h.bud.log
 rw [hg] at hg0
 cases hg0
 have hs0 := h.core.seq
 have hs1 := h.bud.seq
 have hc1 := h.c1
 have hpl := payB_len (s.seq + 1) ops ⟨by omega, by omega⟩ (by omega)
 have hok : okLens [payB (s.seq + 1) ops] = true := by unfold okLens; simp; omega
 obtain ⟨a1, a2, a3, a4⟩ := appL_up h.core.up hgl hok (by simp)
 have hft := h.bud.ft.appL g [payB (s.seq + 1) ops] (by rw [sealB_len]; simp [sumLen]; omega)
 have hsl : (sealB [payB (s.seq + 1) ops]).length ≤ 16384 := by rw [sealB_len]; simp [sumLen]; omega
 generalize appL m g [payB (s.seq + 1) ops] = q at a1 a2 a3 a4 hft ⊢
 obtain ⟨e1, g1, m1⟩ := q
 simp only at a1 a2 a3 a4 hft ⊢
 subst a1 a2
 have hnx := h.bud.next
 have hnm := h.core.wname g hg
 have hwl := h.core.wal
 have hw0 := h.core.good.nn.1
 refine ⟨_, m1, rfl, h.core.take ops _ a3 hnm (fun k h1 h2 => ?_) hsz (by omega) (by omega), ?_⟩
 ·rw [a4, if_neg fun e => by rw [hnm] at e; have := wName_inj ⟨by omega, by omega⟩ ⟨by omega, by omega⟩ e; omega]
  exact h.core.free k h1 h2
 ·obtain ⟨g2, hg2, hgl2⟩ := h.bud.list
  exact ⟨hft.mono (by omega) (by omega), h.bud.next, by show s.seq + 1 ≤ _; omega, by have := h.bud.given; show s.given ≤ _; omega, by have := h.bud.sn; show s.seqs.length ≤ _; omega, ⟨g2, hg2, hgl2.mono (by omega)⟩, ⟨_, rfl, ⟨hgl.torn, hgl.dead, hgl.name, by have := hgl.num; simp only [kAe, kAq]; omega⟩⟩⟩
theorem fl_inv {c e : Nat} {s : StM} {m : FSm} {now : List RecM} {lk : Int → Option (List RecM)} (h : Core e s m now lk) (hb : Bud (c * 2097152 + 2) (536870912 + c * 262144 + 16384) (c * 2097152) (4200 + 4 * c + 1) (c + 1) s m) (hc : c + 1 ≤ 1048576) (he : e ≤ 262144) {s2 : StM} {m2 : FSm} (hf : FlR s m s2 m2) : Core e s2 m2 now lk ∧ Inv (c + 1) e s2 m2 now lk ∧ s2.given = s.given := by
 have key : ∀ {s2 m2}, Core e s2 m2 now lk → Bud (c * 2097152 + 2 + (3 * e + 8) + (4 * e + 8)) (536870912 + c * 262144 + 16384 + 65544 + 65544) (c * 2097152 + (e + 2) + (e + 2)) (4200 + 4 * c + 3) (c + 1) s2 m2 → s2.given = s.given → Core e s2 m2 now lk ∧ Inv (c + 1) e s2 m2 now lk ∧ s2.given = s.given :=
  fun h1 h2 h3 => ⟨h1, ⟨h1, h2.mono (by omega) (by omega) (by omega) (by omega) (kAd _), hc, he⟩, h3⟩
 cases hf with
 |no _ => exact key h (hb.mono (by omega) (by omega) (by omega) (by omega) (kAd _)) rfl
 |fl mk hp hm =>
  obtain ⟨s1, m1, h1, h2, h3, h4, h5⟩ := flush_inv h hb (by omega) ⟨by omega, by omega⟩ (by omega) (by omega) (by omega) hp
  rw [h1]
  exact key h2 (h3.mono (by omega) (by omega) (by omega) (by omega) (kAd _)) h5
 |co mk hp hm s1 m1 h0 r seen mk2 r1 r2 r3 r4 =>
  obtain ⟨s1', m1', h1, h2, h3, h4, hgv⟩ := flush_inv h hb (by omega) ⟨by omega, by omega⟩ (by omega) (by omega) (by omega) hp
  rw [h0] at h1
  simp only [Prod.mk.injEq, true_and] at h1
  obtain ⟨rfl, rfl⟩ := h1
  obtain ⟨d, s2, m2, h5, h6, h7, h8, -, h9⟩ := compact_inv h2 h3 h4 (by omega) ⟨by omega, by omega⟩ (by omega) (by omega) (by omega) r1 r2 r3 r4
  rw [h5]
  exact key h6 (h7.mono (by omega) (by omega) (by omega) (by omega) (kAd _)) (h9.trans hgv)
theorem fl_ok {c e : Nat} {s : StM} {m : FSm} {now : List RecM} {lk : Int → Option (List RecM)} (h : Core e s m now lk) (hb : Bud (c * 2097152 + 2) (536870912 + c * 262144 + 16384) (c * 2097152) (4200 + 4 * c + 1) (c + 1) s m) (hc : c + 1 ≤ 1048576) (he : e ≤ 262144) : FlOk s m := by
 refine ⟨_, _, h.wr hb (by omega) (by omega) (by omega) (by omega) (by omega) ⟨by omega, by omega⟩, fun mk hp => ?_⟩
 obtain ⟨s1, m1, h1, h2, h3, h4, -⟩ := flush_inv h hb (by omega) ⟨by omega, by omega⟩ (by omega) (by omega) (by omega) hp
 rw [h1]
 have := h2.cnt
 exact ⟨by show s1.v.files.length ≤ _; omega, fun _ => ⟨_, _, h2.wr h3 (by omega) (by omega) (by omega) (by omega) (by omega) ⟨by omega, by omega⟩, h2.co (by omega) (by have := h3.sn; omega)⟩⟩
theorem write_inv {c e : Nat} {s : StM} {m : FSm} {now : List RecM} {lk : Int → Option (List RecM)} (h : Inv c e s m now lk) {ops : List OpM} (he : e + ops.length ≤ 262144) (hc : c + 1 ≤ 1048576) {r : Int} {s' : StM} {m' : FSm} (hw : WrR s m ops r s' m') :
  r = (if 4096 < sizeO ops then 2 else 0) ∧ Inv (c + 1) (e + ops.length) s' m' (if 4096 < sizeO ops then now else writeL now ops) lk ∧ s'.given = s.given := by
 have hsame := h.more (c' := c + 1) (e' := e + ops.length) (by omega) (by omega) hc he
 cases hw with
 |down hd => rw [h.down] at hd; cases hd
 |long hd hl => rw [if_pos hl, if_pos hl]; exact ⟨rfl, hsame, rfl⟩
 |none hd hn =>
  subst hn
  exact ⟨rfl, hsame, rfl⟩
 |bad hd h1 h2 g g' m1 e1 hg ha hne =>
  obtain ⟨g2, m2, h3, -⟩ := take_inv h h1 he hg
  rw [ha] at h3
  cases h3
  exact absurd rfl hne
 |ok hd h1 h2 g g' m1 hg ha s2 m2 hf =>
  obtain ⟨g2, m3, h3, h4, h5⟩ := take_inv h h1 he hg
  rw [ha] at h3
  cases h3
  obtain ⟨h6, h7, h8⟩ := fl_inv h4 h5 hc he hf
  rw [doneM_up h6 (by decide), if_neg (by omega), if_neg (by omega)]
  exact ⟨rfl, h7, h8⟩
theorem Inv.bud1 {c e : Nat} {s : StM} {m : FSm} {now : List RecM} {lk : Int → Option (List RecM)} (h : Inv c e s m now lk) : Bud (c * 2097152 + 2) (536870912 + c * 262144 + 16384) (c * 2097152) (4200 + 4 * c + 1) (c + 1) s m := h.bud.mono (by omega) (by omega) (by omega) (by omega) (by omega)
theorem flushC_inv {c e : Nat} {s : StM} {m : FSm} {now : List RecM} {lk : Int → Option (List RecM)} (h : Inv c e s m now lk) (hc : c + 1 ≤ 1048576) {r : Int} {s' : StM} {m' : FSm} (hw : FsR s m r s' m') : r = 0 ∧ Inv (c + 1) e s' m' now lk ∧ s'.given = s.given := by
 have h1 := h.e1
 cases hw with
 |down hd => rw [h.down] at hd; cases hd
 |up hd mk hp e1 s1 m1 h0 =>
  obtain ⟨s1', m1', h1, h2, h3, h4, hgv⟩ := flush_inv h.core h.bud1 (by omega) ⟨by omega, by omega⟩ (by omega) (by omega) (by omega) hp
  rw [h0] at h1
  cases h1
  rw [doneM_up h2 (by decide)]
  exact ⟨rfl, ⟨h2, h3.mono (by omega) (by omega) (by omega) (by omega) (kAd _), hc, h.e1⟩, hgv⟩
theorem compactC_inv {c e : Nat} {s : StM} {m : FSm} {now : List RecM} {lk : Int → Option (List RecM)} (h : Inv c e s m now lk) (hc : c + 1 ≤ 1048576) {r : Int} {s' : StM} {m' : FSm} (hw : CpR s m r s' m') : Inv (c + 1) e s' m' now lk ∧ s'.given = s.given := by
 have h1 := h.e1
 cases hw with
 |down hd => rw [h.down] at hd; cases hd
 |bad hd mk hp e1 s1 m1 h0 hne =>
  obtain ⟨s1', m1', h1, -⟩ := flush_inv h.core h.bud1 (by omega) ⟨by omega, by omega⟩ (by omega) (by omega) (by omega) hp
  rw [h0] at h1
  cases h1
  exact absurd rfl hne
 |up hd mk hp s1 m1 h0 r seen mk2 r1 r2 r3 r4 e1 s2 m2 h5 =>
  obtain ⟨s1', m1', h1, h2, h3, h4, hgv⟩ := flush_inv h.core h.bud1 (by omega) ⟨by omega, by omega⟩ (by omega) (by omega) (by omega) hp
  rw [h0] at h1
  cases h1
  obtain ⟨d, s3, m3, h6, h7, h8, h9, h10, h11⟩ := compact_inv h2 h3 h4 (by omega) ⟨by omega, by omega⟩ (by omega) (by omega) (by omega) r1 r2 r3 r4
  rw [h5] at h6
  cases h6
  rw [doneM_up h7 h10]
  exact ⟨⟨h7, h8.mono (by omega) (by omega) (by omega) (by omega) (kAd _), hc, h.e1⟩, h11.trans hgv⟩
theorem snap_inv {c e : Nat} {s : StM} {m : FSm} {now : List RecM} {lk : Int → Option (List RecM)} (h : Inv c e s m now lk) (hc : c + 1 ≤ 1048576) : Inv (c + 1) e (snapM s) m now (fun n => if n = s.given + 1 then some now else lk n) := by
 have hb : Bud ((c + 1) * 2097152) (536870912 + (c + 1) * 262144) ((c + 1) * 2097152) (4200 + 4 * (c + 1)) (c + 1) s m := h.bud.mono (by omega) (by omega) (by omega) (by omega) (by omega)
 have hg := h.core.given
 have hgb := h.bud.given
 have hsb := h.bud.sn
 have hl := kput_len (s.given + 1) s.seq s.seqs
 refine ⟨{ h.core with given := ?_, sqn := ?_, sqnd := kput_nodup h.core.sqnd, looks := ?_ }, ⟨hb.ft, hb.next, hb.seq, ?_, ?_, hb.list, hb.log⟩, hc, h.e1⟩
 ·show 0 ≤ s.given + 1; omega
 ·intro x hx
  show 1 ≤ x.1 ∧ x.1 ≤ s.given + 1 ∧ x.2 ≤ s.seq
  rcases kput_mem hx with rfl | hx
  ·simp only; omega
  ·have := h.core.sqn x hx; omega
 ·intro n
  show match kget n (kput (s.given + 1) s.seq s.seqs) with
   |some q => ∃ rs, (if n = s.given + 1 then some now else lk n) = some rs ∧ View (allE s) q rs
   |none => (if n = s.given + 1 then some now else lk n) = none
  rw [kget_kput]
  by_cases hn : n = s.given + 1
  ·rw [if_pos hn, if_pos hn]
   exact ⟨now, rfl, h.core.view⟩
  ·rw [if_neg hn, if_neg hn]
   exact h.core.looks n
 ·show s.given + 1 ≤ _; omega
 ·show (kput (s.given + 1) s.seq s.seqs).length ≤ _; omega
theorem look_some {e : Nat} {s : StM} {m : FSm} {now : List RecM} {lk : Int → Option (List RecM)} (h : Core e s m now lk) (n : Int) : (kget n s.seqs).isSome = (lk n).isSome := by
 have := h.looks n
 cases hk : kget n s.seqs with
 |none => rw [hk] at this; rw [this]; rfl
 |some q => rw [hk] at this; obtain ⟨rs, h1, -⟩ := this; rw [h1]; rfl
theorem free_inv {c e : Nat} {s : StM} {m : FSm} {now : List RecM} {lk : Int → Option (List RecM)} (h : Inv c e s m now lk) (n : Int) : (freeM s n).1 = (if (lk n).isSome then 0 else 3) ∧ Inv c e (freeM s n).2 m now (fun k => if k = n then none else lk k) ∧ (freeM s n).2.given = s.given := by
 have hls := look_some h.core n
 unfold freeM
 rw [hls]
 cases hk : (lk n).isSome with
 |false =>
  have hn : lk n = none := by simpa using hk
  have he : (fun k => if k = n then none else lk k) = lk := by
   funext k
   by_cases h1 : k = n
   ·rw [if_pos h1, h1, hn]
   ·rw [if_neg h1]
  rw [he]
  exact ⟨rfl, h, rfl⟩
 |true =>
  have hsub := kdel_sub n s.seqs
  refine ⟨rfl, ⟨{ h.core with sqn := fun x hx => h.core.sqn x (hsub.mem hx), sqnd := kdel_nodup h.core.sqnd, looks := ?_ }, ⟨h.bud.ft, h.bud.next, h.bud.seq, h.bud.given, ?_, h.bud.list, h.bud.log⟩, h.c1, h.e1⟩, rfl⟩
  ·intro k
   show match kget k (kdel n s.seqs) with
    |some q => ∃ rs, (if k = n then none else lk k) = some rs ∧ View (allE s) q rs
    |none => (if k = n then none else lk k) = none
   rw [kdel_get _ _ h.core.sqnd]
   by_cases hkn : k = n
   ·rw [if_pos hkn, if_pos hkn]
   ·rw [if_neg hkn, if_neg hkn]
    exact h.core.looks k
  ·have := h.bud.sn
   have := hsub.length_le
   show (kdel n s.seqs).length ≤ _; omega
theorem Core.fine {e : Nat} {s : StM} {m : FSm} {now : List RecM} {lk : Int → Option (List RecM)} (h : Core e s m now lk) : FineE (allE s) := by
 intro x hx hd
 rw [allE_eq, kAl] at hx
 rcases hx with hx | hx
 ·exact h.mem.fine x hx hd
 ·obtain ⟨l, hl, hxl⟩ := kCx.1 hx
  obtain ⟨y, hy, rfl⟩ := kAm.1 hl
  exact (h.tab y hy).1.fine x hxl hd
theorem eltP_iff (x : EntM) (k : Bytes) (q : Int) : eltP x k q = true ↔ Op.bytesLess x.k k = true ∨ (x.k = k ∧ q < x.s) := by unfold eltP; simp
theorem from_of {l : List EntM} {k : Bytes} {q : Int} {y : EntM} (hy : y ∈ l) (hk : y.k = k) (hq : y.s ≤ q) : y ∈ fromE k q l := by
 rw [← to_from k q l] at hy
 rcases kAl.1 hy with h | h
 ·exfalso
  rcases (eltP_iff y k q).1 (toE_lt k q l y h) with h1 | ⟨-, h1⟩
  ·rw [hk, bless_irrefl] at h1; cases h1
  ·omega
 ·exact h
theorem from_sub (k : Bytes) (q : Int) (l : List EntM) : (fromE k q l).Sublist l := by
 have := kAj (toE k q l) (fromE k q l)
 rwa [to_from] at this
theorem getE_some {l : List EntM} (hr : Rise l) {k : Bytes} {q : Int} {x : EntM} (h : getE l k q = some x) : IsLook l k q x := by
 unfold getE at h
 cases hf : fromE k q l with
 |nil => rw [hf] at h; cases h
 |cons z r =>
  rw [hf] at h
  simp only at h
  split at h
  ·rename_i hz
   cases h
   have hge := fromE_ge hr (k := k) (s := q)
   rw [hf] at hge
   have hz1 := hge x (by simp)
   have hzq : x.s ≤ q := by
    rcases Int.lt_or_le q x.s with h1 | h1
    ·rw [(eltP_iff x k q).2 (.inr ⟨hz, h1⟩)] at hz1; cases hz1
    ·exact h1
   have hrf : Rise (x :: r) := by rw [← hf]; exact hr.sublist (from_sub k q l)
   refine ⟨(from_sub k q l).mem (by rw [hf]; simp), hz, hzq, fun y hy h1 h2 => ?_⟩
   have hyf := from_of hy h1 h2
   rw [hf] at hyf
   rcases kAf.1 hyf with rfl | hyf
   ·exact kCb _
   ·rcases (elt_iff x y).1 ((kBa.1 hrf).1 y hyf) with h3 | ⟨-, h3⟩
    ·rw [hz, h1, bless_irrefl] at h3; cases h3
    ·omega
  ·cases h
theorem getE_has {l : List EntM} (hr : Rise l) {k : Bytes} {q : Int} {y : EntM} (hy : y ∈ l) (hk : y.k = k) (hq : y.s ≤ q) : ∃ x, getE l k q = some x := by
 have hyf := from_of hy hk hq
 unfold getE
 cases hf : fromE k q l with
 |nil => rw [hf] at hyf; cases hyf
 |cons z r =>
  rw [hf] at hyf
  have hge := fromE_ge hr (k := k) (s := q)
  rw [hf] at hge
  have hz1 := hge z (by simp)
  have hrf : Rise (z :: r) := by rw [← hf]; exact hr.sublist (from_sub k q l)
  have hzk : z.k = k := by
   rcases kAf.1 hyf with rfl | hyf
   ·exact hk
   ·rcases (elt_iff z y).1 ((kBa.1 hrf).1 y hyf) with h3 | ⟨h3, -⟩
    ·rw [hk] at h3
     rw [(eltP_iff z k q).2 (.inl h3)] at hz1; cases hz1
    ·rw [h3, hk]
  exact ⟨z, by simp [hzk]⟩
theorem best_look {s : StM} (hm : Rise s.mem) (ht : ∀ x ∈ s.tabs, Rise x.2) {k : Bytes} {q : Int} {b : Option EntM} (h : GetR s k q b) : match b with
  |some x => IsLook (allE s) k q x
  |none => ∀ y ∈ allE s, y.k = k → ¬ y.s ≤ q := by
 have hin : ∀ y ∈ allE s, ∃ l, Rise l ∧ y ∈ l ∧ (∀ z ∈ l, z ∈ allE s) ∧ getE l k q ∈ (getE s.mem k q :: s.tabs.map fun x => getE x.2 k q) := by
  intro y hy
  rw [allE_eq, kAl] at hy
  rcases hy with hy | hy
  ·exact ⟨s.mem, hm, hy, fun z hz => by rw [allE_eq]; exact kBm _ hz, by simp⟩
  ·obtain ⟨l, hl, hyl⟩ := kCx.1 hy
   obtain ⟨x, hx, rfl⟩ := kAm.1 hl
   exact ⟨x.2, ht x hx, hyl, fun z hz => by rw [allE_eq]; exact kBp _ (kCx.2 ⟨x.2, hl, hz⟩), kAs _ (kAm.2 ⟨x, hx, rfl⟩)⟩
 cases b with
 |none =>
  intro y hy hk hq
  obtain ⟨l, hr, hyl, -, hc⟩ := hin y hy
  obtain ⟨x, hx⟩ := getE_has hr hyl hk hq
  have := h.non rfl _ hc
  rw [hx] at this; cases this
 |some x =>
  have hx := h.mem x rfl
  have hlook : ∃ l, Rise l ∧ (∀ z ∈ l, z ∈ allE s) ∧ getE l k q = some x := by
   rcases kAf.1 hx with hx | hx
   ·exact ⟨s.mem, hm, fun z hz => by rw [allE_eq]; exact kBm _ hz, hx.symm⟩
   ·obtain ⟨y, hy, he⟩ := kAm.1 hx
    exact ⟨y.2, ht y hy, fun z hz => by rw [allE_eq]; exact kBp _ (kCx.2 ⟨y.2, kAw hy, hz⟩), he⟩
  obtain ⟨l, hr, hl, hg⟩ := hlook
  have hL := getE_some hr hg
  refine ⟨hl x hL.mem, hL.key, hL.le, fun y hy hk hq => ?_⟩
  obtain ⟨l', hr', hyl, -, hc⟩ := hin y hy
  obtain ⟨z, hz⟩ := getE_has hr' hyl hk hq
  rw [hz] at hc
  have h1 := h.top x rfl z hc
  have h2 := (getE_some hr' hz).top y hyl hk hq
  omega
def lookR (rs : List RecM) (k : Bytes) : Option Bytes := (rs.find? fun r => decide (r.1 = k)).map (·.2)
theorem lookR_of {rs : List RecM} (hr : rs.Pairwise LessR) {k v : Bytes} (h : (k, v) ∈ rs) : lookR rs k = some v := by
 unfold lookR
 induction rs with
 |nil => cases h
 |cons r rs ih =>
  have hp := kBa.1 hr
  rw [List.find?_cons]
  by_cases hk : r.1 = k
  ·rw [decide_eq_true hk]
   rcases kAf.1 h with h | h
   ·rw [← h]; rfl
   ·have := hp.1 _ h
    unfold LessR at this
    rw [hk, bless_irrefl] at this; cases this
  ·rw [decide_eq_false hk]
   rcases kAf.1 h with h | h
   ·rw [← h] at hk; exact absurd rfl hk
   ·exact ih hp.2 h
theorem lookR_none {rs : List RecM} {k : Bytes} (h : ∀ v, (k, v) ∉ rs) : lookR rs k = none := by
 unfold lookR
 rw [List.find?_eq_none.2 fun r hr => ?_]
 ·rfl
 ·simp only [decide_eq_true_eq]
  rintro rfl
  exact h r.2 hr
theorem get_view {s : StM} (hm : Rise s.mem) (ht : ∀ x ∈ s.tabs, Rise x.2) (h1 : OneE (allE s)) (hf : FineE (allE s)) {k : Bytes} {q : Int} {b : Option EntM} (h : GetR s k q b) {rs : List RecM} (hv : View (allE s) q rs) : valV b = (lookR rs k).getD [] ∧ okV b = (lookR rs k).isSome := by
 have hl := best_look hm ht h
 cases b with
 |none =>
  simp only at hl
  rw [lookR_none fun v hin => by
   obtain ⟨x, hx, -⟩ := (hv.all k v).1 hin
   exact hl x hx.mem hx.key hx.le]
  exact ⟨rfl, rfl⟩
 |some x =>
  simp only at hl
  cases hd : x.d with
  |false =>
   rw [lookR_of hv.rise ((hv.all k x.v).2 ⟨x, hl, hd, rfl⟩)]
   unfold valV okV
   simp [hd]
  |true =>
   rw [lookR_none fun v hin => by
    obtain ⟨y, hy, hyd, -⟩ := (hv.all k v).1 hin
    rw [hy.uniq h1 hl, hd] at hyd; cases hyd]
   unfold valV okV
   simp [hd, hf x hl.mem hd]
def inK (fr to : Bytes) (r : RecM) : Bool := !Op.bytesLess r.1 fr && (decide (to = []) || Op.bytesLess r.1 to)
theorem takeW_filter {l : List RecM} (hr : l.Pairwise LessR) (to : Bytes) : l.takeWhile (fun r => decide (to = []) || Op.bytesLess r.1 to) = l.filter fun r => decide (to = []) || Op.bytesLess r.1 to := by
 induction l with
 |nil => rfl
 |cons r l ih =>
  have hp := kBa.1 hr
  rw [List.takeWhile_cons, List.filter_cons]
  by_cases h : (decide (to = []) || Op.bytesLess r.1 to) = true
  ·rw [if_pos h, if_pos h, ih hp.2]
  ·rw [if_neg h, if_neg h]
   symm
   rw [List.filter_eq_nil_iff]
   intro y hy h2
   rw [Bool.or_eq_true] at h h2
   rcases h2 with h2 | h2
   ·exact h (.inl h2)
   ·exact h (.inr (bless_trans _ _ _ (hp.1 y hy) h2))
theorem scan_view {s : StM} {k to : Bytes} {q : Int} {ops : List OpM} (h : ScanR s k to q ops) {rs : List RecM} (hv : View (allE s) q rs) : ops = (rs.filter (inK k to)).map rop := by
 obtain ⟨r, hp, hr, rfl⟩ := h
 have hmem : ∀ x, x ∈ r ↔ x ∈ allE s ∧ Op.bytesLess x.k k = false := fun x => by rw [hp.mem_iff, List.mem_filter]; simp
 have hlk : ∀ κ x, Op.bytesLess κ k = false → (IsLook r κ q x ↔ IsLook (allE s) κ q x) := fun κ x hk => by
  constructor
  ·intro hx
   exact ⟨((hmem x).1 hx.mem).1, hx.key, hx.le, fun y hy h1 h2 => hx.top y ((hmem y).2 ⟨hy, by rw [h1]; exact hk⟩) h1 h2⟩
  ·intro hx
   exact ⟨(hmem x).2 ⟨hx.mem, by rw [hx.key]; exact hk⟩, hx.key, hx.le, fun y hy h1 h2 => hx.top y ((hmem y).1 hy).1 h1 h2⟩
 have hv2 : View r q (rs.filter fun p => !Op.bytesLess p.1 k) := by
  refine ⟨hv.rise.sublist List.filter_sublist, fun κ v => ?_⟩
  rw [List.mem_filter, hv.all κ v]
  constructor
  ·rintro ⟨⟨x, hx, h2⟩, hk⟩
   exact ⟨x, (hlk κ x (by simpa using hk)).2 hx, h2⟩
  ·rintro ⟨x, hx, h2⟩
   have hk := ((hmem x).1 hx.mem).2
   rw [hx.key] at hk
   exact ⟨⟨x, (hlk κ x hk).1 hx, h2⟩, by simp [hk]⟩
 have he := (viewE_view hr q).uniq hv2
 have h1 : ∀ l : List EntM, (rangeE to l).map opOf = ((l.map kvE).takeWhile fun r => decide (to = []) || Op.bytesLess r.1 to).map rop := by
  intro l
  unfold rangeE
  rw [List.takeWhile_map, kBz]
  rfl
 rw [h1, he, takeW_filter (hv.rise.sublist List.filter_sublist), List.filter_filter]
 congr 2
 funext p
 unfold inK
 exact Bool.and_comm _ _
end Go.Proofs.YtkgibdhpijdbfaaGreatDoor
namespace Go.Proofs.YtkgibdhpijdbfaaGreatDoor
open Go Go.Eng Go.Proofs
def FnPost (v : VM) (ts : List (Int × List EntM)) (ps : List Bytes) (w : World) (T0 : List Nat) (L : Heap) (r : Value) (w' : World) : Prop :=
 ∃ a ca La tm et ct ks Lt pa pc Lp, r = .tuple ⟨[.agg ⟨[.slice a v.files.length ca, .int .i64 v.wal, .int .i64 v.next, .int .i64 v.seq, .map (some tm), .slice pa ps.length pc]⟩, .int .i64 0]⟩ ∧
  VersV a ca v La ∧ MapC intV (fun b : Nat => ptr b) et ct ks ∧ TabsO ks ts Lt ∧ Vec T_string 1 pa ps.length pc (ps.map Str) Lp ∧ St w T0 (Lp ++ (La ++ ((tm, .map et ct) :: (Lt ++ L)))) w'
def ver1 : VM := ⟨[], 0, 1, 0⟩
theorem VersV.new : VersV none 0 ver1 [] := ⟨Vec.nil, by decide⟩
set_option maxRecDepth 4000 in
set_option maxHeartbeats 4000000 in
theorem Sfind_new {w : World} {f : Nat} {m : FSm} {L : Heap} (hF : FSo f m L) (hh : Holds L w) (h5 : (findM m curN).2 = 5) :
  Cl Tryz.prog f_store_find [ptr f] w fun r w' => FnPost ver1 [] [] w (keys L) L r w' := by
 have hS := St.enter hh
 generalize keys L = T0 at hS ⊢
 refine en_store_find rfl ?_
 (repeat (refine jt ⟨?_⟩; refine hS.st rfl rfl ?_; intro _ hS)); refine jt ⟨?_⟩
 refine hS.al ?_
 intro b2 w1 _ hS
 (repeat (refine jt ⟨?_⟩; refine hS.st rfl rfl ?_; intro _ hS)); refine jt ⟨?_⟩
 refine hS.al ?_
 intro tm w2 _ hS
 (repeat (refine jt ⟨?_⟩; refine hS.st rfl rfl ?_; intro _ hS)); refine jt ⟨?_⟩
 refine hS.al ?_
 intro b4 w3 _ hS
 (repeat (refine jt ⟨?_⟩; refine hS.st rfl rfl ?_; intro _ hS)); refine jt ⟨?_⟩
 refine Cl.mono (FRead_spec hF (hS.part (L := L)) curN) ?_
 rintro _ w4 ⟨rfl, hS'⟩
 have hS := hS.call (L := L) hS'
 rw [h5]
 (repeat (refine jt ⟨?_⟩; refine hS.st rfl rfl ?_; intro _ hS)); refine jt ⟨?_⟩
 refine ⟨none, 0, [], tm, #[], 0, [], [], none, 0, [], rfl, VersV.new, ⟨rfl, by simp [Stamp]⟩, .nil, Vec.nil, ?_⟩
 exact hS.sub (.cons _ (.cons_cons _ (.cons _ (List.Sublist.refl _))))
end Go.Proofs.YtkgibdhpijdbfaaGreatDoor
namespace Go.Proofs.YtkgibdhpijdbfaaGreatDoor
open Go Go.Eng Go.Proofs Go.Srt
def keepM (s : StM) (list : Int) (nm : Bytes) : Bool := decide (nm = curN) || (decide ((parseN nm).1 = 109) && decide ((parseN nm).2.1 = list)) || (decide ((parseN nm).1 = 119) && decide ((parseN nm).2.1 = s.v.wal)) || (decide ((parseN nm).1 = 116) && (kget (parseN nm).2.1 s.tabs).isSome)
def clearM (s : StM) (list : Int) : List Bytes → FSm → Int × FSm
 |[], m => (0, m)
 |nm :: r, m => if keepM s list nm = true then clearM s list r m else if (deleteM m nm).1 ≠ 0 then deleteM m nm else clearM s list r (deleteM m nm).2
theorem clearM_step {s : StM} {list : Int} {m mi : FSm} {ns : List Bytes} {k : Nat} (h : clearM s list ns m = clearM s list (ns.drop k) mi) (hk : k < ns.length) :
  clearM s list ns m = if keepM s list ns[k] = true then clearM s list (ns.drop (k + 1)) mi else if (deleteM mi ns[k]).1 ≠ 0 then deleteM mi ns[k] else clearM s list (ns.drop (k + 1)) (deleteM mi ns[k]).2 := by
 rw [h, kBs hk]; rfl
def ClPost (sb f : Nat) (s : StM) (m : FSm) (list : Int) (w : World) (T0 : List Nat) (v : Value) (w' : World) : Prop := (m.off = true ∧ v = .int .i64 7 ∧ ∃ L', StO sb f s m L' ∧ St w T0 L' w') ∨
 (m.off = false ∧ ∃ ns : List Bytes, ns.Perm (m.files.map (·.1)) ∧ v = .int .i64 (clearM s list ns m).1 ∧ ∃ L', StO sb f s (clearM s list ns m).2 L' ∧ St w T0 L' w')
theorem StO.tabQ {sb f : Nat} {s : StM} {m : FSm} {L : Heap} (hO : StO sb f s m L) : ∃ tm et ct ks, MapC intV (fun b : Nat => ptr b) et ct ks ∧ (∀ n, (kget n ks).isSome = (kget n s.tabs).isSome) ∧ ∀ w, Holds L w → w.cell? ⟨sb, 13, none⟩ = some (.map (some tm)) ∧ w.heap[tm]? = some (.map et ct) := by
 obtain ⟨sq, es, c, hsq, ha, hc, Lh, hvh, a, ca, La, hv, lv, Ll, hl, gv, Lg, hg, mb, Lm, hm, tm, et, ct, ks, ht, Lt, hts, LF, hF⟩ := hO
 have hkk := hts.keys
 refine ⟨tm, et, ct, ks, ht, fun n => ?_, fun w hw => ⟨(St.enter hw).cell (b := sb) (off := 13) rfl, (St.enter hw).mem (b := tm)⟩⟩
 have h1 := kget_none (k := n) (l := ks)
 have h2 := kget_none (k := n) (l := s.tabs)
 rw [hkk] at h1
 have h3 : kget n ks = none ↔ kget n s.tabs = none := h1.trans h2.symm
 cases e1 : kget n ks <;> cases e2 : kget n s.tabs <;> simp_all
theorem u8_iff (c : UInt8) (k : Nat) (hk : k < 256) : (c = UInt8.ofNat k) ↔ ((c.toNat : Int) = (k : Int)) := by
 constructor
 ·rintro rfl
  simp [UInt8.toNat_ofNat']; omega
 ·intro h
  apply UInt8.toNat_inj.1
  simp [UInt8.toNat_ofNat']; omega
set_option maxRecDepth 8000 in
set_option maxHeartbeats 16000000 in
theorem Sclear_spec {w : World} {sb f A : Nat} {s : StM} {m : FSm} {L : Heap} (hO : StO sb f s m L) (hh : Holds L w) (hG : Glob w (keys L)) (list : Int) (hB : FB A m) (hA : A ≤ 549755813888) :
  Cl Tryz.prog f_store_Store_clear [ptr sb, .int .i64 list] w fun v w' => ClPost sb f s m list w (keys L) v w' := by
 have hS := St.enter hh
 generalize hT : keys L = T0 at hS hG ⊢
 refine en_store_Store_clear rfl ?_
 refine jq ⟨?_⟩
 refine ldAt (hO.fC hS.holds) ?_
 refine jq ⟨?_⟩
 refine Cl.mono (hO.list hS.holds hB (by omega)) ?_
 rintro _ w1 (⟨hoff, rfl, hS'⟩ | ⟨hoff, ns, an, cn, Ln, hp, rfl, hvn, hS'⟩)
 ·have hS := hS.call (L := L) hS'
  refine jq ⟨?_⟩
  exact .inl ⟨hoff, rfl, L, hO, hS⟩
 ·have hS := hS.call (L := L) hS'
  have hnl : ns.length ≤ A := by have := hp.length_eq; rw [kAv] at this; have := hB.num; omega
  have hnb : ∀ n ∈ ns, n.length ≤ 40 := fun n hn => by
   obtain ⟨x, hx, rfl⟩ := kAm.1 (hp.mem_iff.1 hn)
   exact hB.name x hx
  refine jq ⟨?_⟩
  refine SemW.loop (fun k : Nat => [(0, ptr sb), (1, .int .i64 list), (25, .slice an ns.length cn), (26, .int .i64 ns.length), (27, .int .i64 k)])
   (fun k w' => k ≤ ns.length ∧ ∃ mi L2, clearM s list ns m = clearM s list (ns.drop k) mi ∧ FB (A + k) mi ∧ StO sb f s mi L2 ∧ St w T0 (Ln ++ L2) w') (fun k => ns.length - k) 0
   ⟨rfl, rfl, rfl, rfl, rfl, trivial⟩ ⟨kAg _, m, L, by rw [List.drop_zero], hB, hO, hS⟩ ?_
  clear hS hS'
  rintro k w2 ⟨hk, mi, L2, hcl, hBi, hO2, hS⟩
  by_cases hkl : k < ns.length
  ·obtain ⟨gn, tn, rfl, -, -, -, rfl⟩ : ∃ g l', an = some ⟨g, 0, none⟩ ∧ (ns.map Str).length = ns.length * 1 ∧ (ns.map Str).length + l'.length = cn * 1 ∧ ns.length ≤ cn ∧ Ln = [(g, .cells ⟨ns.map Str ++ l'⟩ T_string (0, 0))] := by
    rcases hvn.inv with ⟨_, h, _⟩ | h
    ·omega
    ·exact h
   have hget : (ns.map Str ++ tn)[k]? = some (Str ns[k]) := by
    rw [kAz (by rw [kAv]; exact hkl)]; simp [hkl]
   have hstep := clearM_step hcl hkl
   have hn40 := hnb _ (kAx hkl)
   generalize ns[k] = n at hget hstep hn40
   refine jq ⟨?_⟩
   refine hS.ld (v := Str n) (by rw [show 0 + (k : Int).toNat * 1 = k by omega]; exact hget) ?_
   refine jq ⟨?_⟩
   refine Cl.mono (Parse_spec (t := n) (by omega) (hG.keep hS).err (hG.keep hS).tab) ?_
   rintro _ w3 ⟨rfl, hS'⟩
   have hS := hS.call0 hS'
   have hkp : keepM s list n = (decide (n = curN) || (decide ((parseN n).1 = 109) && decide ((parseN n).2.1 = list)) || (decide ((parseN n).1 = 119) && decide ((parseN n).2.1 = s.v.wal)) || (decide ((parseN n).1 = 116) && (kget (parseN n).2.1 s.tabs).isSome)) := rfl
   unfold parseV
   obtain ⟨pn, hpn⟩ : ∃ pn, parseN n = pn := ⟨_, rfl⟩
   rw [hpn] at hkp ⊢
   obtain ⟨c, z, ok⟩ := pn
   simp only at hkp ⊢
   have d1 : decide (c = 109) = decide ((c.toNat : Int) = 109) := decide_eq_decide.2 (u8_iff c 109 (by decide))
   have d2 : decide (c = 119) = decide ((c.toNat : Int) = 119) := decide_eq_decide.2 (u8_iff c 119 (by decide))
   have d3 : decide (c = 116) = decide ((c.toNat : Int) = 116) := decide_eq_decide.2 (u8_iff c 116 (by decide))
   rw [d1, d2, d3] at hkp
   have hcb := c.toNat_lt
   refine jq ⟨?_⟩
   by_cases hcur : n = [67, 85, 82, 82, 69, 78, 84]
   ·have hkt : keepM s list n = true := by rw [hkp, decide_eq_true (show n = curN from hcur)]; rfl
    subst hcur
    refine jq ⟨?_⟩
    rw [if_pos hkt] at hstep
    refine jq ⟨?_⟩
    exact ⟨k + 1, ⟨rfl, rfl, rfl, rfl, rfl, trivial⟩, ⟨hkl, mi, L2, hstep, hBi.mono (by omega), hO2, hS⟩, by omega⟩
   ·have hcur2 : decide (n = curN) = false := decide_eq_false hcur
    by_cases h109 : (c.toNat : Int) = 109
    ·by_cases hzl : z = list
     ·have hkt : keepM s list n = true := by rw [hkp]; simp [h109, hzl]
      refine jq ⟨?_⟩
      rw [if_pos hkt] at hstep
      refine jq ⟨?_⟩
      exact ⟨k + 1, ⟨rfl, rfl, rfl, rfl, rfl, trivial⟩, ⟨hkl, mi, L2, hstep, hBi.mono (by omega), hO2, hS⟩, by omega⟩
     ·have hkt : keepM s list n = false := by rw [hkp, hcur2]; simp [h109, hzl]
      refine jq ⟨?_⟩
      rw [if_neg (by rw [hkt]; simp)] at hstep
      refine jq ⟨?_⟩
      refine ldAt (hO2.fC (hS.part (L := L2))) ?_
      refine jq ⟨?_⟩
      refine Cl.mono (hO2.delete (hS.part (L := L2)) n hBi (by omega)) ?_
      rintro _ w4 ⟨rfl, L3, hO3, hS'⟩
      have hS := hS.call (L := L2) hS'
      have hB3 := hBi.del n
      generalize deleteM mi n = dm at hO3 hB3 hstep ⊢
      obtain ⟨e3, m3⟩ := dm
      simp only at hO3 hB3 hstep ⊢
      by_cases he3 : e3 = 0
      ·subst he3
       rw [if_neg (by simp)] at hstep
       refine jq ⟨?_⟩
       exact ⟨k + 1, ⟨rfl, rfl, rfl, rfl, rfl, trivial⟩, ⟨hkl, m3, L3, hstep, hB3, hO3, hS⟩, by omega⟩
      ·rw [if_pos he3] at hstep
       refine jq ⟨?_⟩
       exact .inr ⟨hoff, ns, hp, by rw [hstep], L3, by rw [hstep]; exact hO3, hS.sub (kAj _ _)⟩
    ·by_cases h119 : (c.toNat : Int) = 119
     ·by_cases hzw : z = s.v.wal
      ·have hkt : keepM s list n = true := by rw [hkp]; simp [h119, hzw]
       refine jq ⟨?_⟩
       refine ldAt (hO2.walC (hS.part (L := L2))) ?_
       refine jq ⟨?_⟩
       rw [if_pos hkt] at hstep
       refine jq ⟨?_⟩
       exact ⟨k + 1, ⟨rfl, rfl, rfl, rfl, rfl, trivial⟩, ⟨hkl, mi, L2, hstep, hBi.mono (by omega), hO2, hS⟩, by omega⟩
      ·have hkt : keepM s list n = false := by rw [hkp, hcur2]; simp [h119, hzw]
       refine jq ⟨?_⟩
       refine ldAt (hO2.walC (hS.part (L := L2))) ?_
       refine jq ⟨?_⟩
       rw [if_neg (by rw [hkt]; simp)] at hstep
       refine jq ⟨?_⟩
       refine ldAt (hO2.fC (hS.part (L := L2))) ?_
       refine jq ⟨?_⟩
       refine Cl.mono (hO2.delete (hS.part (L := L2)) n hBi (by omega)) ?_
       rintro _ w4 ⟨rfl, L3, hO3, hS'⟩
       have hS := hS.call (L := L2) hS'
       have hB3 := hBi.del n
       generalize deleteM mi n = dm at hO3 hB3 hstep ⊢
       obtain ⟨e3, m3⟩ := dm
       simp only at hO3 hB3 hstep ⊢
       by_cases he3 : e3 = 0
       ·subst he3
        rw [if_neg (by simp)] at hstep
        refine jq ⟨?_⟩
        exact ⟨k + 1, ⟨rfl, rfl, rfl, rfl, rfl, trivial⟩, ⟨hkl, m3, L3, hstep, hB3, hO3, hS⟩, by omega⟩
       ·rw [if_pos he3] at hstep
        refine jq ⟨?_⟩
        exact .inr ⟨hoff, ns, hp, by rw [hstep], L3, by rw [hstep]; exact hO3, hS.sub (kAj _ _)⟩
     ·by_cases h116 : (c.toNat : Int) = 116
      ·obtain ⟨tm, et, ct, ks, hks, hkk, htp⟩ := hO2.tabQ
       have hkz := hkk z
       refine jq ⟨?_⟩
       refine ldAt (htp _ (hS.part (L := L2))).1 ?_
       refine jq ⟨?_⟩
       refine lookupMap tblOk KEnc.i64 rfl rfl und_int rfl (kvs := ks) (fun w' hw' => ⟨et, ct, by subst hw'; exact (htp _ (hS.part (L := L2))).2, hks.of⟩) ?_
       cases hkg : kget z ks with
       |some tb =>
        rw [hkg] at hkz
        have hkt : keepM s list n = true := by rw [hkp, ← hkz]; simp [h116]
        simp only [kD, kBu]
        refine jq ⟨?_⟩
        rw [if_pos hkt] at hstep
        refine jq ⟨?_⟩
        exact ⟨k + 1, ⟨rfl, rfl, rfl, rfl, rfl, trivial⟩, ⟨hkl, mi, L2, hstep, hBi.mono (by omega), hO2, hS⟩, by omega⟩
       |none =>
        rw [hkg] at hkz
        have hkt : keepM s list n = false := by rw [hkp, hcur2, ← hkz]; simp [h109, h119]
        simp only [Option.map_none, Option.getD_none]
        refine jq ⟨?_⟩
        rw [if_neg (by rw [hkt]; simp)] at hstep
        refine jq ⟨?_⟩
        refine ldAt (hO2.fC (hS.part (L := L2))) ?_
        refine jq ⟨?_⟩
        refine Cl.mono (hO2.delete (hS.part (L := L2)) n hBi (by omega)) ?_
        rintro _ w4 ⟨rfl, L3, hO3, hS'⟩
        have hS := hS.call (L := L2) hS'
        have hB3 := hBi.del n
        generalize deleteM mi n = dm at hO3 hB3 hstep ⊢
        obtain ⟨e3, m3⟩ := dm
        simp only at hO3 hB3 hstep ⊢
        by_cases he3 : e3 = 0
        ·subst he3
         rw [if_neg (by simp)] at hstep
         refine jq ⟨?_⟩
         exact ⟨k + 1, ⟨rfl, rfl, rfl, rfl, rfl, trivial⟩, ⟨hkl, m3, L3, hstep, hB3, hO3, hS⟩, by omega⟩
        ·rw [if_pos he3] at hstep
         refine jq ⟨?_⟩
         exact .inr ⟨hoff, ns, hp, by rw [hstep], L3, by rw [hstep]; exact hO3, hS.sub (kAj _ _)⟩
      ·have hkt : keepM s list n = false := by rw [hkp, hcur2]; simp [h109, h119, h116]
       refine jq ⟨?_⟩
       rw [if_neg (by rw [hkt]; simp)] at hstep
       refine jq ⟨?_⟩
       refine ldAt (hO2.fC (hS.part (L := L2))) ?_
       refine jq ⟨?_⟩
       refine Cl.mono (hO2.delete (hS.part (L := L2)) n hBi (by omega)) ?_
       rintro _ w4 ⟨rfl, L3, hO3, hS'⟩
       have hS := hS.call (L := L2) hS'
       have hB3 := hBi.del n
       generalize deleteM mi n = dm at hO3 hB3 hstep ⊢
       obtain ⟨e3, m3⟩ := dm
       simp only at hO3 hB3 hstep ⊢
       by_cases he3 : e3 = 0
       ·subst he3
        rw [if_neg (by simp)] at hstep
        refine jq ⟨?_⟩
        exact ⟨k + 1, ⟨rfl, rfl, rfl, rfl, rfl, trivial⟩, ⟨hkl, m3, L3, hstep, hB3, hO3, hS⟩, by omega⟩
       ·rw [if_pos he3] at hstep
        refine jq ⟨?_⟩
        exact .inr ⟨hoff, ns, hp, by rw [hstep], L3, by rw [hstep]; exact hO3, hS.sub (kAj _ _)⟩
  ·have hke : k = ns.length := by omega
   subst hke
   rw [kCt] at hcl
   refine jq ⟨?_⟩
   refine .inr ⟨hoff, ns, hp, by rw [hcl]; rfl, L2, by rw [hcl]; exact hO2, hS.sub (kAj _ _)⟩
theorem StO.setLog {w0 w : World} {T : List Nat} {sb f bl : Nat} {s : StM} {m : FSm} {L : Heap} (hO : StO sb f s m L) {g : LogM} (hS : St w0 T ((bl, logO f g) :: L) w) {K : World → Prop} (h : ∀ L' w', StO sb f { s with log := some g } m L' → St w0 T L' w' → K w') : StG w sb (0 + 11) [ptr bl] K := by
 obtain ⟨sq, es, c, hsq2, ha, hc, Lh, hvh, a3, c3, La, hv3, lv, Ll, hl3, gv, Lg, hg3, mb2, Lm, hm, tm2, et2, ct2, ks2, ht, Lt2, hts, LF, hF⟩ := hO
 refine hS.st rfl rfl ?_
 intro w8 hS
 have hS := (St.perm hS (logIn _ _ _ _ Lh La Ll _)).sub (.cons_cons _ (.cons_cons _ (.cons_cons _ ((List.Sublist.refl Lh).append ((List.Sublist.refl La).append ((List.Sublist.refl Ll).append ((List.Sublist.refl _).append (kAj Lg _))))))))
 exact h _ _ (StO.mk (sb := sb) (s := { s with log := some g }) (m := m) sq es c hsq2 ha hc Lh hvh a3 c3 La hv3 lv Ll hl3 (ptr bl) _ (LogP.some bl g) mb2 Lm hm tm2 et2 ct2 ks2 ht Lt2 hts LF hF) hS
theorem StO.setLogN {w0 w : World} {T : List Nat} {sb f : Nat} {s : StM} {m : FSm} {L : Heap} (hO : StO sb f s m L) (hS : St w0 T L w) {K : World → Prop} (h : ∀ L' w', StO sb f { s with log := none } m L' → St w0 T L' w' → K w') : StG w sb (0 + 11) [.pointer none] K := by
 obtain ⟨sq, es, c, hsq2, ha, hc, Lh, hvh, a3, c3, La, hv3, lv, Ll, hl3, gv, Lg, hg3, mb2, Lm, hm, tm2, et2, ct2, ks2, ht, Lt2, hts, LF, hF⟩ := hO
 refine hS.st rfl rfl ?_
 intro w8 hS
 have hS := hS.sub (.cons_cons _ (.cons_cons _ (.cons_cons _ ((List.Sublist.refl Lh).append ((List.Sublist.refl La).append ((List.Sublist.refl Ll).append (kAj Lg _)))))))
 exact h _ _ (StO.mk (sb := sb) (s := { s with log := none }) (m := m) sq es c hsq2 ha hc Lh hvh a3 c3 La hv3 lv Ll hl3 (.pointer none) [] LogP.none mb2 Lm hm tm2 et2 ct2 ks2 ht Lt2 hts LF hF) hS
theorem StO.setList {w0 w : World} {T : List Nat} {sb f bl : Nat} {s : StM} {m : FSm} {L : Heap} (hO : StO sb f s m L) {g : LogM} (hS : St w0 T ((bl, logO f g) :: L) w) {K : World → Prop} (h : ∀ L' w', StO sb f { s with list := some g } m L' → St w0 T L' w' → K w') : StG w sb (0 + 10) [ptr bl] K := by
 obtain ⟨sq, es, c, hsq2, ha, hc, Lh, hvh, a3, c3, La, hv3, lv, Ll, hl3, gv, Lg, hg3, mb2, Lm, hm, tm2, et2, ct2, ks2, ht, Lt2, hts, LF, hF⟩ := hO
 refine hS.st rfl rfl ?_
 intro w8 hS
 have hS := St.perm (hS.sub (.cons_cons _ (.cons_cons _ (.cons_cons _ (.cons_cons _ ((List.Sublist.refl Lh).append ((List.Sublist.refl La).append (kAj Ll _)))))))) (place4 _ _ _ _ Lh La _)
 exact h _ _ (StO.mk (sb := sb) (s := { s with list := some g }) (m := m) sq es c hsq2 ha hc Lh hvh a3 c3 La hv3 (ptr bl) _ (LogP.some bl g) gv Lg hg3 mb2 Lm hm tm2 et2 ct2 ks2 ht Lt2 hts LF hF) hS
theorem StO.setListN {w0 w : World} {T : List Nat} {sb f : Nat} {s : StM} {m : FSm} {L : Heap} (hO : StO sb f s m L) (hS : St w0 T L w) {K : World → Prop} (h : ∀ L' w', StO sb f { s with list := none } m L' → St w0 T L' w' → K w') : StG w sb (0 + 10) [.pointer none] K := by
 obtain ⟨sq, es, c, hsq2, ha, hc, Lh, hvh, a3, c3, La, hv3, lv, Ll, hl3, gv, Lg, hg3, mb2, Lm, hm, tm2, et2, ct2, ks2, ht, Lt2, hts, LF, hF⟩ := hO
 refine hS.st rfl rfl ?_
 intro w8 hS
 have hS := hS.sub (.cons_cons _ (.cons_cons _ (.cons_cons _ ((List.Sublist.refl Lh).append ((List.Sublist.refl La).append (kAj Ll _))))))
 exact h _ _ (StO.mk (sb := sb) (s := { s with list := none }) (m := m) sq es c hsq2 ha hc Lh hvh a3 c3 La hv3 (.pointer none) [] LogP.none gv Lg hg3 mb2 Lm hm tm2 et2 ct2 ks2 ht Lt2 hts LF hF) hS
theorem StO.versP {sb f : Nat} {s : StM} {m : FSm} {L : Heap} (hO : StO sb f s m L) : ∃ a ca, (-9223372036854775808 ≤ s.v.wal ∧ s.v.wal ≤ 9223372036854775807 ∧ -9223372036854775808 ≤ s.v.next ∧ s.v.next ≤ 9223372036854775807 ∧ -9223372036854775808 ≤ s.v.seq ∧ s.v.seq ≤ 9223372036854775807) ∧ ∀ w, Holds L w → (∀ j v, (versC a ca s.v)[j]? = some v → w.cell? ⟨sb, 6 + j, none⟩ = some v) ∧ VersAt w a ca s.v := by
 obtain ⟨sq, es, c, hsq, ha, hc, Lh, hvh, a, ca, La, hv, lv, Ll, hl, gv, Lg, hg, mb, Lm, hm, tm, et, ct, ks, ht, Lt, hts, LF, hF⟩ := hO
 refine ⟨a, ca, hv.rng, fun w hw => ⟨fun j v hj => ?_, hv.at (St.enter hw)⟩⟩
 refine (St.enter hw).cell (b := sb) (off := 6 + j) ?_
 match j with
 |0 => exact hj
 |1 => exact hj
 |2 => exact hj
 |3 => exact hj
 |j + 4 => simp [versC] at hj
theorem ldnAll {C : World → Prop} {n b off : Nat} {l : List Value} (h : ∀ w', C w' → ∀ j v, l[j]? = some v → w'.cell? ⟨b, off + j, none⟩ = some v) (hn : l.length = n) {K : List Value → Prop} (hk : K l) : LdN C n b off K := ⟨⟨l, hn, h, hk⟩⟩
def rnS (s : StM) : StM := { s with v := { s.v with wal := s.v.next, next := s.v.next + 2 } }
def rn1 (s : StM) (m : FSm) (ps : List Bytes) : Int × FSm := rewriteM m (wName s.v.next) ps
def rn2 (s : StM) (m : FSm) (ps : List Bytes) : Int × FSm := rewriteM (rn1 s m ps).2 (lName (s.v.next + 1)) (editsB (rnS s).v)
def rn3 (s : StM) (m : FSm) (ps : List Bytes) : Int × FSm := fileM (rn2 s m ps).2 newN (lName (s.v.next + 1))
def rn4 (s : StM) (m : FSm) (ps : List Bytes) : Int × FSm := renameM (rn3 s m ps).2 newN curN
def rnL (s : StM) (m : FSm) : StM := { rnS s with log := some (openL m (wName s.v.next)) }
def rnM (s : StM) (m : FSm) : StM := { rnL s m with list := some (openL m (lName (s.v.next + 1))) }
inductive RnR (s : StM) (m : FSm) (ps : List Bytes) : Int → StM → FSm → Prop where
 |e1 (h : (rn1 s m ps).1 ≠ 0) : RnR s m ps (rn1 s m ps).1 (rnS s) (rn1 s m ps).2
 |e2 (h1 : (rn1 s m ps).1 = 0) (h : (rn2 s m ps).1 ≠ 0) : RnR s m ps (rn2 s m ps).1 (rnS s) (rn2 s m ps).2
 |e3 (h1 : (rn1 s m ps).1 = 0) (h2 : (rn2 s m ps).1 = 0) (h : (rn3 s m ps).1 ≠ 0) : RnR s m ps (rn3 s m ps).1 (rnS s) (rn3 s m ps).2
 |e4 (h1 : (rn1 s m ps).1 = 0) (h2 : (rn2 s m ps).1 = 0) (h3 : (rn3 s m ps).1 = 0) (h : (rn4 s m ps).1 ≠ 0) : RnR s m ps (rn4 s m ps).1 (rnS s) (rn4 s m ps).2
 |e5 (s' : StM) (h1 : (rn1 s m ps).1 = 0) (h2 : (rn2 s m ps).1 = 0) (h3 : (rn3 s m ps).1 = 0) (h4 : (rn4 s m ps).1 = 0) (h : openE (rn4 s m ps).2 (wName s.v.next) ≠ 0) : RnR s m ps (openE (rn4 s m ps).2 (wName s.v.next)) s' (rn4 s m ps).2
 |e6 (s' : StM) (h1 : (rn1 s m ps).1 = 0) (h2 : (rn2 s m ps).1 = 0) (h3 : (rn3 s m ps).1 = 0) (h4 : (rn4 s m ps).1 = 0) (h5 : openE (rn4 s m ps).2 (wName s.v.next) = 0) (h : openE (rn4 s m ps).2 (lName (s.v.next + 1)) ≠ 0) : RnR s m ps (openE (rn4 s m ps).2 (lName (s.v.next + 1))) s' (rn4 s m ps).2
 |e7 (h1 : (rn1 s m ps).1 = 0) (h2 : (rn2 s m ps).1 = 0) (h3 : (rn3 s m ps).1 = 0) (h4 : (rn4 s m ps).1 = 0) (h5 : openE (rn4 s m ps).2 (wName s.v.next) = 0) (h6 : openE (rn4 s m ps).2 (lName (s.v.next + 1)) = 0) (ns : List Bytes) (hp : ns.Perm ((rn4 s m ps).2.files.map (·.1))) :
   RnR s m ps (clearM (rnM s (rn4 s m ps).2) (s.v.next + 1) ns (rn4 s m ps).2).1 (rnM s (rn4 s m ps).2) (clearM (rnM s (rn4 s m ps).2) (s.v.next + 1) ns (rn4 s m ps).2).2
end Go.Proofs.YtkgibdhpijdbfaaGreatDoor
