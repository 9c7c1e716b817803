/- Texts of this claim, one behind the other. -/
import Derived.Test.YtkgibdhpijdbfaaGreatDoorZ7
import Derived.Test.YtkgibdhpijdbfaaGreatDoorZ1
import Derived.JoinedOf
set_option linter.unusedVariables false
set_option linter.unusedSimpArgs false
namespace Go.Proofs.YtkgibdhpijdbfaaGreatDoor
open Go Go.Eng Go.Proofs Go.Srt
open Go.ChangeShapes Go.WideShapes Go.ChangeAt Go.RowKit
theorem sum_cst {α : Type} (l : List α) (c : Nat) : (l.map fun _ => c).sum = c * l.length := by
 induction l with
 |nil => rfl
 |cons a l ih => rw [kAh, kCj, ih, kAe, Nat.mul_succ, Nat.add_comm]
theorem opens_fates : Opens Tryz.prog T_Sl_api_Fate (RSl 2 (RPair 1 (RInt .i64) (RInt .i64))) (fun xs => 3 * xs.length + 1) :=
 Opens.map (Opens.slice Tryz.underlying47 (show Tryz.prog.cellsOf T_api_Fate = 2 by kernel_rfl) (by decide) (Opens.pair (s0 := 1) (s1 := 1) Tryz.underlying75 rfl rfl (by kernel_rfl) (by kernel_rfl) (by kernel_rfl) (Opens.int Tryz.underlying3) (Opens.int Tryz.underlying3))) id (fun _ _ _ h => h) (fun x => by simp only [id]; rw [sum_cst]; omega)
theorem opens_ints : Opens Tryz.prog T_Sl_int (RSl 1 (RInt .i64)) (fun xs => xs.length + 1) :=
 Opens.map (Opens.slice Tryz.underlying22 (show Tryz.prog.cellsOf T_int = 1 by kernel_rfl) (by decide) (Opens.int Tryz.underlying3)) id (fun _ _ _ h => h) (fun x => by simp only [id]; rw [sum_cst]; omega)
def sck (x : ScM) : Nat := x.key.length + x.to.length + (x.ops.map obk).sum + 3 * x.fates.length + x.keep.length + 8
theorem opens_sc : Opens Tryz.prog T_tarmaclaw12_Op RSc sck := by
 refine Opens.map (Opens.struct (sz := 7) Tryz.underlying49 (by kernel_rfl) (OpensFs.cons (s := 1) rfl (by kernel_rfl) (Opens.int Tryz.underlying3) (OpensFs.cons (s := 1) rfl (by kernel_rfl) (Opens.int Tryz.underlying3) (OpensFs.cons (s := 1) rfl (by kernel_rfl) (Opens.str Tryz.underlying9) (OpensFs.cons (s := 1) rfl (by kernel_rfl) (Opens.str Tryz.underlying9)
  (OpensFs.cons (s := 1) rfl (by kernel_rfl) opens_ops (OpensFs.cons (s := 1) rfl (by kernel_rfl) opens_fates (OpensFs.cons (s := 1) rfl (by kernel_rfl) opens_ints OpensFs.nil))))))))
  (fun x => ⟨x.1, x.2.1, x.2.2.1, x.2.2.2.1, x.2.2.2.2.1, x.2.2.2.2.2.1, x.2.2.2.2.2.2.1⟩) ?_ (fun x => by unfold sck bbk; (try simp only); omega)
 intro W cs x h
 obtain ⟨e1, w1, h⟩ := pair_int h
 obtain ⟨e2, w2, h⟩ := pair_int h
 obtain ⟨e3, h⟩ := pair_str h
 obtain ⟨e4, h⟩ := pair_str h
 obtain ⟨vo, e5, h5, h⟩ := pair_sl h
 obtain ⟨vf, e6, h6, h⟩ := pair_sl h
 obtain ⟨vk, e7, h7, h⟩ := pair_sl h
 have h : (((((((cs.drop 1).drop 1).drop 1).drop 1).drop 1).drop 1).drop 1) = [] := h
 rw [h] at e7; rw [e7] at e6; rw [e6] at e5; rw [e5] at e4; rw [e4] at e3; rw [e3] at e2; rw [e2] at e1
 exact ⟨vo, vf, vk, e1, h5, h6, h7, wf_i64b w2⟩
theorem opens_scr : Opens Tryz.prog T_Sl_tarmaclaw12_Op (RSl 7 RSc) (fun xs => (xs.map sck).sum + 1) :=
 Opens.slice Tryz.underlying42 (show Tryz.prog.cellsOf T_tarmaclaw12_Op = 7 by kernel_rfl) (by decide) opens_sc
theorem sck_sum : ∀ (scr : List ScM), 8 * scr.length ≤ (scr.map sck).sum ∧ 4 * cntS scr ≤ (scr.map sck).sum ∧ ∀ x ∈ scr, sizeO x.ops ≤ 4 * (scr.map sck).sum ∧ sck x ≤ (scr.map sck).sum
 |[] => ⟨kAd _, kAd _, by nofun⟩
 |y :: scr => by
  obtain ⟨h1, h2, h3⟩ := sck_sum scr
  obtain ⟨h4, h5⟩ := obk_sum y.ops
  have e1 : ((y :: scr).map sck).sum = sck y + (scr.map sck).sum := by simp
  have e2 : cntS (y :: scr) = y.ops.length + cntS scr := by unfold cntS; simp
  have e3 : (y.ops.map obk).sum + 8 ≤ sck y := by unfold sck; omega
  rw [kAe]
  refine ⟨by omega, by omega, fun x hx => ?_⟩
  rcases kAf.1 hx with rfl | hx
  ·omega
  ·have := h3 x hx; omega
end Go.Proofs.YtkgibdhpijdbfaaGreatDoor
namespace Go.Eng
open Go
theorem SemW.here {P : Program} {N : Nat} {c : Code} {Q : Exit → Env → World → Prop} {e : Env} {w : World} (h : SemW P N c Q e w) : SemW P N c Q e w := h
theorem SemW.meet {P : Program} {N : Nat} {x y : Code} {Q Q' : Exit → Env → World → Prop} {e : Env} {w : World} {ι : Type} (I : ι → Env) (J : ι → World → Prop)
  (hx : SemW P N x (thenQ (fun e' w' => ∃ i, subG (I i) e' ∧ J i w') Q') e w) (hy : ∀ i w', J i w' → SemW P N y Q (I i) w') : SemW P N x (thenQ (SemW P N y Q) Q') e w :=
 hx.mono fun ex e w h => by
  cases ex
  case normal => obtain ⟨i, h1, h2⟩ := h; exact SemW.weaken h1 (hy i w h2)
  all_goals exact h
end Go.Eng
namespace Go.Proofs.YtkgibdhpijdbfaaGreatDoor
open Go Go.Eng Go.Proofs Go.Srt
theorem Sto.len {sb f c e : Nat} {gv : Int} {now : List RecM} {lk : Looks} {L : Heap} (h : Sto sb f c e gv now lk L) : now.length ≤ 262144 := by
 obtain ⟨s, m, -, hI, -⟩ := h
 exact kBb hI.core.nlen hI.e1
structure Twin (sb f tb f2 c e : Nat) (gv : Int) (now : List RecM) (lk : Looks) (L M : Heap) : Prop where
 s : Sto sb f c e gv now lk L
 t : Sto tb f2 c e gv now lk M
 lk : ∀ n, ((lk n).getD []).length ≤ 262144
set_option maxRecDepth 8000 in
set_option maxHeartbeats 16000000 in
theorem Settings_spec {w : World} (hG : Glob w []) {a1 : Option Addr} {c1 : Nat} {hs1 : List Int} {mm1 fan1 : Int} (ha1 : Arr w [] a1 (hs1.map intV)) (hl1 : hs1.length ≤ 1099511627776) {a2 : Option Addr} {c2 : Nat} {hs2 : List Int} {mm2 fan2 : Int} (ha2 : Arr w [] a2 (hs2.map intV)) (hl2 : hs2.length ≤ 1099511627776)
  {ax : Option Addr} {cx : Nat} {scr : List ScM} (hx : RSl 7 RSc w [.slice ax scr.length cx] scr) (hsz : ∀ x ∈ scr, sizeO x.ops ≤ 1099511627776) (hn : cntS scr ≤ 262144) (hc : scr.length ≤ 1048574) :
  Cl Tryz.prog f_tarmaclaw12_StoreSettings [.agg ⟨[.int .i64 mm1, .int .i64 fan1, .slice a1 hs1.length c1]⟩, .agg ⟨[.int .i64 mm2, .int .i64 fan2, .slice a2 hs2.length c2]⟩, .slice ax scr.length cx] w fun v w' => v = .bool true ∧ St w [] [] w' := by
 have hS := St.start w
 refine en_tarmaclaw12_StoreSettings rfl ?_
 (repeat (refine jt ⟨?_⟩; refine hS.st rfl rfl ?_; intro _ hS)); refine jt ⟨?_⟩
 refine hS.al ?_
 intro b3 w1 _ hS
 (repeat (refine jt ⟨?_⟩; refine hS.st rfl rfl ?_; intro _ hS)); refine jt ⟨?_⟩
 refine hS.al ?_
 intro b4 w2 _ hS
 (repeat (refine jt ⟨?_⟩; refine hS.st rfl rfl ?_; intro _ hS)); refine jt ⟨?_⟩
 refine Cl.mono (lives_spec (hG.part hS (L := []))) ?_
 rintro _ w3 ⟨rfl, hS'⟩
 have hS := hS.call0 hS'
 (repeat (refine jt ⟨?_⟩; refine hS.st rfl rfl ?_; intro _ hS)); refine jt ⟨?_⟩
 have hcell : ∀ w' H, St w [] (H ++ [(b4, .cells ⟨[.int .i64 mm2, .int .i64 fan2, .slice a2 hs2.length c2]⟩ T_api_Setting (0, 0)), (b3, .cells ⟨[.int .i64 mm1, .int .i64 fan1, .slice a1 hs1.length c1]⟩ T_api_Setting (0, 0))]) w' → (∀ (j : Nat) (v : Value), ([.int .i64 mm1, .int .i64 fan1, .slice a1 hs1.length c1] : List Value)[j]? = some v → w'.cell? ⟨b3, 0 + j, none⟩ = some v) ∧ ∀ (j : Nat) (v : Value), ([.int .i64 mm2, .int .i64 fan2, .slice a2 hs2.length c2] : List Value)[j]? = some v → w'.cell? ⟨b4, 0 + j, none⟩ = some v := by
  intro w' H hS
  refine ⟨fun j v hj => ?_, fun j v hj => ?_⟩
  ·rw [kBl]; exact hS.cell (b := b3) (off := j) hj
  ·rw [kBl]; exact hS.cell (b := b4) (off := j) hj
 refine SemW.draw tblOk mixed (fun w' => ∀ (j : Nat) (v : Value), ([.int .i64 mm1, .int .i64 fan1, .slice a1 hs1.length c1] : List Value)[j]? = some v → w'.cell? ⟨b3, 0 + j, none⟩ = some v) [2, 3, 4, 5, 6, 7] [1, 0, 2, 3, 4, 5, 6, 7] (by kernel_rfl) (hcell _ [] hS.drew).1 ?_
 have hS := hS.drew
 refine jr ⟨?_⟩
 refine ldnAll (l := [.int .i64 mm1, .int .i64 fan1, .slice a1 hs1.length c1]) (fun w' h => h) rfl ?_
 refine jr ⟨?_⟩
 refine Cl.mono New_spec ?_
 rintro _ w4 ⟨f, L0, rfl, -, hF, hS'⟩
 have hS := hS.callNew hS'
 refine Chk.mk (hcell _ L0 hS).1 ?_
 refine jr ⟨?_⟩
 refine Cl.mono (KOpen (hs := hs1) (mm := mm1) (fan := fan1) (c := c1) (a := a1) hF (hS.part (L := L0)) (hG.part hS (L := L0)) (ha1.stay hS (L := L0)) hl1) ?_
 rintro _ w5 ⟨sb, L1, rfl, hK1, hS'⟩
 have hS := hS.call (L := L0) hS'
 clear hF
 refine jr ⟨?_⟩
 (repeat (refine jt ⟨?_⟩; refine hS.st rfl rfl ?_; intro _ hS)); refine jt ⟨?_⟩
 refine SemW.draw tblOk mixed (fun w' => ∀ (j : Nat) (v : Value), ([.int .i64 mm2, .int .i64 fan2, .slice a2 hs2.length c2] : List Value)[j]? = some v → w'.cell? ⟨b4, 0 + j, none⟩ = some v) [2, 3, 4, 5, 6, 7] [1, 0, 2, 3, 4, 5, 6, 7] (by kernel_rfl) (hcell _ L1 hS.drew).2 ?_
 have hS := hS.drew
 refine jr ⟨?_⟩
 refine ldnAll (l := [.int .i64 mm2, .int .i64 fan2, .slice a2 hs2.length c2]) (fun w' h => h) rfl ?_
 refine jr ⟨?_⟩
 refine Cl.mono New_spec ?_
 rintro _ w6 ⟨f2, L0, rfl, -, hF, hS'⟩
 have hS := hS.callNew hS'
 refine Chk.mk (hcell _ (L0 ++ L1) (by rw [kAc]; exact hS)).2 ?_
 refine jr ⟨?_⟩
 refine Cl.mono (KOpen (hs := hs2) (mm := mm2) (fan := fan2) (c := c2) (a := a2) hF (hS.part (L := L0)) (hG.part hS (L := L0)) (ha2.stay hS (L := L0)) hl2) ?_
 rintro _ w7 ⟨tb, L2, rfl, hK2, hS'⟩
 have hS := hS.call (L := L0) hS'
 clear hF
 refine jr ⟨?_⟩
 (repeat (refine jt ⟨?_⟩; refine hS.st rfl rfl ?_; intro _ hS)); refine jt ⟨?_⟩
 have hS : St w [] (L2 ++ L1) _ := hS.sub ((List.Sublist.refl L2).append (kBk L1 _))
 refine SemW.loop (fun k : Nat => [(7, ptr sb), (9, ptr tb), (49, .slice ax scr.length cx), (50, .int .i64 scr.length), (51, .int .i64 k)])
  (fun k w' => k ≤ scr.length ∧ ∃ gv now lk L M, Twin sb f tb f2 (1 + k) (cntS (scr.take k)) gv now lk L M ∧ St w [] (M ++ L) w') (fun k => scr.length - k) 0
  ⟨rfl, rfl, rfl, rfl, rfl, trivial⟩ ⟨kAg _, 0, [], noLk, L1, L2, ⟨hK1, hK2, fun n => kAg _⟩, hS⟩ ?_
 clear hS hK1 hK2 hcell
 rintro k w8 ⟨hk, gv, now, lk, L1, L2, ⟨hK1, hK2, hlk⟩, hS⟩
 by_cases hkl : k < scr.length
 ·obtain ⟨g, off, ao, co, af, cf, ak, ck, rfl, hld, harr, -, -, -⟩ := scAt hS hx hkl
  have hsucc := cntS_take scr k hkl
  have hnl := cntS_le scr (k + 1)
  have hz := hsz _ (kAx hkl)
  generalize scr[k] = x at hld harr hsucc hz
  obtain ⟨kd, n, key, to, ops, fates, keep⟩ := x
  simp only at hld harr hsucc hz
  (repeat (refine jt ⟨?_⟩; refine hS.st rfl rfl ?_; intro _ hS)); refine jt ⟨?_⟩
  refine hld _ ?_
  (repeat (refine jt ⟨?_⟩; refine hS.st rfl rfl ?_; intro _ hS)); refine jt ⟨?_⟩
  refine hS.al ?_
  intro b12 w9 _ hS
  (repeat (refine ju ⟨?_⟩; refine hS.st rfl rfl ?_; intro _ hS)); refine ju ⟨?_⟩
  refine jP tblOk ?_
  (repeat (refine ju ⟨?_⟩; refine hS.st rfl rfl ?_; intro _ hS)); refine ju ⟨?_⟩
  refine SemW.here ?_
  refine SemW.meet (fun _ : Unit => [(7, ptr sb), (9, ptr tb), (12, ptr b12), (49, .slice (some ⟨g, off, none⟩) scr.length cx), (50, .int .i64 scr.length), (51, .int .i64 k)])
   (fun _ w' => ∃ gv now lk L M, Twin sb f tb f2 (1 + k + 1) (cntS (scr.take (k + 1))) gv now lk L M ∧ St w [] ((b12, .cells ⟨[.int .i64 kd, .int .i64 n, Str key, Str to, .slice ao ops.length co, .slice af fates.length cf, .slice ak keep.length ck]⟩ T_tarmaclaw12_Op (0, 0)) :: (M ++ L)) w') ?_ ?_
  ·have hm1 := fun (z : Nat) (hz : z ≤ 1 + k + 1) => hK1.more (c' := 1 + k + 1) (e' := cntS (scr.take (k + 1))) (by omega) (by omega) (by omega) (by omega)
   have hm2 := hK2.more (c' := 1 + k + 1) (e' := cntS (scr.take (k + 1))) (by omega) (by omega) (by omega) (by omega)
   have hm1 := hm1 0 (by omega)
   by_cases h1 : kd = 1
   ·(repeat (refine jt ⟨?_⟩; refine hS.st rfl rfl ?_; intro _ hS)); refine jt ⟨?_⟩
    refine SemW.draw tblOk mixed (fun w' => w'.cell? ⟨b12, 4, none⟩ = some (.slice ao ops.length co)) [7, 8] [0, 1, 2, 4, 5, 6, 3, 7, 8] (by kernel_rfl) (hS.drew.cell (b := b12) (off := 4) rfl) ?_
    have hS := hS.drew
    refine jr ⟨?_⟩
    refine ldAll (fun w' h => h) ?_
    refine jr ⟨?_⟩
    refine ldAll (fun w' h => h) ?_
    refine jr ⟨?_⟩
    refine Cl.mono (KWrite (ops := ops) (cp := co) hK1 (hS.part (L := L1)) (hG.part hS (L := L1)) (harr.stay hS (L := L1)) hz (by omega) (by omega)) ?_
    rintro _ w10 ⟨rfl, M1, hK3, hS'⟩
    have hS := hS.call (L := L1) hS'
    refine Chk.mk (hS.cell (b := b12) (off := 4) rfl) ?_
    refine jr ⟨?_⟩
    refine Cl.mono (KWrite (ops := ops) (cp := co) hK2 (hS.part (L := L2)) (hG.part hS (L := L2)) (harr.stay hS (L := L2)) hz (by omega) (by omega)) ?_
    rintro _ w11 ⟨rfl, M2, hK4, hS'⟩
    have hS := hS.call (L := L2) hS'
    rw [← hsucc] at hK3 hK4
    refine jr ⟨?_⟩
    (repeat (refine jt ⟨?_⟩; refine hS.st rfl rfl ?_; intro _ hS)); refine jt ⟨?_⟩
    exact ⟨(), ⟨rfl, rfl, rfl, rfl, rfl, rfl, trivial⟩, ⟨_, _, _, _, _, ⟨hK3, hK4, hlk⟩, hS⟩⟩
   by_cases h4 : kd = 4
   ·(repeat (refine jt ⟨?_⟩; refine hS.st rfl rfl ?_; intro _ hS)); refine jt ⟨?_⟩
    refine Cl.mono (KSnap hK1 (hS.part (L := L1)) (by omega)) ?_
    rintro _ w10 ⟨rfl, M1, hK3, hS'⟩
    have hS := hS.call (L := L1) hS'
    (repeat (refine jt ⟨?_⟩; refine hS.st rfl rfl ?_; intro _ hS)); refine jt ⟨?_⟩
    refine Cl.mono (KSnap hK2 (hS.part (L := L2)) (by omega)) ?_
    rintro _ w11 ⟨rfl, M2, hK4, hS'⟩
    have hS := hS.call (L := L2) hS'
    have hnl2 := hK1.len
    have hlk2 : ∀ i : Int, (((fun i => if i = gv + 1 then some now else lk i) i).getD []).length ≤ 262144 := fun i => by
     simp only
     split
     ·exact hnl2
     ·exact hlk i
    (repeat (refine jt ⟨?_⟩; refine hS.st rfl rfl ?_; intro _ hS)); refine jt ⟨?_⟩
    exact ⟨(), ⟨rfl, rfl, rfl, rfl, rfl, rfl, trivial⟩, ⟨_, _, _, _, _, ⟨hK3.more (by omega) (by omega) (by omega) (by omega), hK4.more (by omega) (by omega) (by omega) (by omega), hlk2⟩, hS⟩⟩
   by_cases h5 : kd = 5
   ·(repeat (refine jt ⟨?_⟩; refine hS.st rfl rfl ?_; intro _ hS)); refine jt ⟨?_⟩
    refine SemW.draw tblOk mixed (fun w' => w'.cell? ⟨b12, 1, none⟩ = some (.int .i64 n)) [11, 12] [0, 1, 2, 3, 4, 6, 7, 8, 9, 10, 5, 11, 12] (by kernel_rfl) (hS.drew.cell (b := b12) (off := 1) rfl) ?_
    have hS := hS.drew
    refine jr ⟨?_⟩
    refine ldAll (fun w' h => h) ?_
    refine jr ⟨?_⟩
    refine ldAll (fun w' h => h) ?_
    refine jr ⟨?_⟩
    refine Cl.mono (KFree hK1 (hS.part (L := L1)) n) ?_
    rintro _ w10 ⟨rfl, M1, hK3, hS'⟩
    have hS := hS.call (L := L1) hS'
    refine Chk.mk (hS.cell (b := b12) (off := 1) rfl) ?_
    refine jr ⟨?_⟩
    refine Cl.mono (KFree hK2 (hS.part (L := L2)) n) ?_
    rintro _ w11 ⟨rfl, M2, hK4, hS'⟩
    have hS := hS.call (L := L2) hS'
    have hlk2 : ∀ i : Int, (((fun i => if i = n then none else lk i) i).getD []).length ≤ 262144 := fun i => by
     simp only
     split
     ·exact kAg _
     ·exact hlk i
    refine jr ⟨?_⟩
    (repeat (refine jt ⟨?_⟩; refine hS.st rfl rfl ?_; intro _ hS)); refine jt ⟨?_⟩
    exact ⟨(), ⟨rfl, rfl, rfl, rfl, rfl, rfl, trivial⟩, ⟨_, _, _, _, _, ⟨hK3.more (by omega) (by omega) (by omega) (by omega), hK4.more (by omega) (by omega) (by omega) (by omega), hlk2⟩, hS⟩⟩
   by_cases h6 : kd = 6
   ·(repeat (refine jt ⟨?_⟩; refine hS.st rfl rfl ?_; intro _ hS)); refine jt ⟨?_⟩
    refine Cl.mono (KFlush hK1 (hS.part (L := L1)) (hG.part hS (L := L1)) (by omega)) ?_
    rintro _ w10 ⟨rfl, M1, hK3, hS'⟩
    have hS := hS.call (L := L1) hS'
    (repeat (refine jt ⟨?_⟩; refine hS.st rfl rfl ?_; intro _ hS)); refine jt ⟨?_⟩
    exact ⟨(), ⟨rfl, rfl, rfl, rfl, rfl, rfl, trivial⟩, ⟨_, _, _, _, _, ⟨hK3.more (by omega) (by omega) (by omega) (by omega), hm2, hlk⟩, hS⟩⟩
   by_cases h7 : kd = 7
   ·(repeat (refine jt ⟨?_⟩; refine hS.st rfl rfl ?_; intro _ hS)); refine jt ⟨?_⟩
    refine Cl.mono (KCompact hK2 (hS.part (L := L2)) (hG.part hS (L := L2)) (by omega)) ?_
    rintro _ w10 ⟨⟨r, rfl⟩, M2, hK4, hS'⟩
    have hS := hS.call (L := L2) hS'
    (repeat (refine jt ⟨?_⟩; refine hS.st rfl rfl ?_; intro _ hS)); refine jt ⟨?_⟩
    exact ⟨(), ⟨rfl, rfl, rfl, rfl, rfl, rfl, trivial⟩, ⟨_, _, _, _, _, ⟨hm1, hK4.more (by omega) (by omega) (by omega) (by omega), hlk⟩, hS⟩⟩
   (repeat (refine jt ⟨?_⟩; refine hS.st rfl rfl ?_; intro _ hS)); refine jt ⟨?_⟩
   exact ⟨(), ⟨rfl, rfl, rfl, rfl, rfl, rfl, trivial⟩, ⟨_, _, _, _, _, ⟨hm1, hm2, hlk⟩, hS⟩⟩
  ·clear hS hK1 hK2 hlk
   rintro - w10 ⟨gv, now, lk, L1, L2, ⟨hK1, hK2, hlk⟩, hS⟩
   have hnl1 := hK1.len
   have hfl : (now.filter (inK key to)).length ≤ 262144 := kBb (List.length_filter_le _ _) hnl1
   have hfl2 : (((lk n).getD []).filter (inK [] [])).length ≤ 262144 := kBb (List.length_filter_le _ _) (hlk n)
   (repeat (refine jt ⟨?_⟩; refine hS.st rfl rfl ?_; intro _ hS)); refine jt ⟨?_⟩
   refine Cl.mono (KScan hK1 (hS.part (L := L1)) key to) ?_
   rintro _ w11 ⟨a11, c11, Lv, rfl, hv11, hS'⟩
   have hS := hS.call (L := L1) hS'
   (repeat (refine jt ⟨?_⟩; refine hS.st rfl rfl ?_; intro _ hS)); refine jt ⟨?_⟩
   refine Cl.mono (KScan hK2 (hS.part (L := L2)) key to) ?_
   rintro _ w12 ⟨a12, c12, Lu, rfl, hv12, hS'⟩
   have hS := hS.call (L := L2) hS'
   (repeat (refine jt ⟨?_⟩; refine hS.st rfl rfl ?_; intro _ hS)); refine jt ⟨?_⟩
   refine Cl.mono (KScanAt hK1 (hS.part (L := L1)) n [] []) ?_
   rintro _ w13 ⟨a13, c13, Lx, M1, rfl, hv13, hK3, hS'⟩
   have hS := hS.call (L := L1) hS'
   (repeat (refine jt ⟨?_⟩; refine hS.st rfl rfl ?_; intro _ hS)); refine jt ⟨?_⟩
   refine Cl.mono (KScanAt hK2 (hS.part (L := L2)) n [] []) ?_
   rintro _ w14 ⟨a14, c14, Ly, M2, rfl, hv14, hK4, hS'⟩
   have hS := hS.call (L := L2) hS'
   (repeat (refine jt ⟨?_⟩; refine hS.st rfl rfl ?_; intro _ hS)); refine jt ⟨?_⟩
   refine Cl.mono (Same12_spec (hv11.arr hS (by simp)) (hv12.arr hS (by simp)) (by rw [kAv]; omega) (by rw [kAv]; omega)) ?_
   rintro _ w15 ⟨rfl, hS'⟩
   have hS := hS.call0 hS'
   rw [decide_eq_true rfl]
   (repeat (refine jt ⟨?_⟩; refine hS.st rfl rfl ?_; intro _ hS)); refine jt ⟨?_⟩
   refine Cl.mono (Same12_spec (hv13.arr hS (by simp)) (hv14.arr hS (by simp)) (by rw [kAv]; omega) (by rw [kAv]; omega)) ?_
   rintro _ w16 ⟨rfl, hS'⟩
   have hS := hS.call0 hS'
   rw [decide_eq_true rfl]
   (repeat (refine jt ⟨?_⟩; refine hS.st rfl rfl ?_; intro _ hS)); refine jt ⟨?_⟩
   refine ⟨k + 1, ⟨rfl, rfl, rfl, rfl, rfl, trivial⟩, ⟨by omega, gv, now, lk, M1, M2, ⟨hK3, hK4, hlk⟩, ?_⟩, by omega⟩
   exact hS.sub (.cons _ (((kAj Ly M2).trans (kAj Lu _)).append ((kAj Lx M1).trans (kAj Lv _))))
 ·obtain rfl : k = scr.length := by omega
  (repeat (refine jt ⟨?_⟩; refine hS.st rfl rfl ?_; intro _ hS)); refine jt ⟨?_⟩
  exact ⟨rfl, hS.nil⟩
end Go.Proofs.YtkgibdhpijdbfaaGreatDoor
namespace Go.Proofs.YtkgibdhpijdbfaaGreatDoor
open Go Go.Proofs
theorem joined_of {P : Program} {f : FuncId} {fn : Func} {s : ChangeSpec} {c : OpenClaim}
  (h1 : (c.wf (OpenSpec.ofChange s) && laidOutB P && mapsRowed P && fn.params.all (P.readableRec ·) && namedTie P c.named s.vars && (c.stops == []) && (P.stops == []) && (c.knobs == []) && (P.stopKnobs == [])) = true)
  (h2 : (c.inPlace == P.inPlace f) = true) (h3 : (c.unfollowed == P.unfollowed f) = true) (h4 : (c.recurses == P.recurses f) = true) (h5 : (c.named == P.varsNamed f) = true)
  (h6 : ((c.maps == (fn.params.toList ++ s.plain.varTypes P).any (P.mapsRec ·)) && (c.ifaces == (fn.params.toList ++ s.plain.varTypes P).any (P.ifacesRec ·)) && (c.mapsOut == P.mapsAmong fn.resultTypes.toList) && (c.loops == (fn.params.toList ++ s.plain.varTypes P).any (P.loopsFrom ·)) && (c.wideKeys == (fn.params.toList ++ s.plain.varTypes P ++ fn.resultTypes.toList).any (P.wideKeysFrom ·)) && s.vars.all (P.varReadable ·)) = true)
  (h7 : (fn.resultTypes.all (fun t => P.readableRec t && decide (t < P.types.size)) && (c.ifacesOut == fn.resultTypes.toList.any (P.ifacesRec ·)) && (c.loopsOut == fn.resultTypes.toList.any (P.loopsFrom ·)) && (c.plainKeys == P.plainKeys) && c.shortTexts.isNone && P.stopsHeard && P.mayEnter && (c.lifted == P.liftsFinal) && (P.make == some c.make)) = true)
  (h8 : ((c.kinds == (if c.domain.isEmpty then [] else fn.params.toList.map fun t => match P.underlying t with | some (.int k) => some k | _ => none)) && (c.pinned == c.pinnedBy) && (c.veiled == (fn.params.toList ++ s.plain.varTypes P ++ fn.resultTypes.toList).any (P.veiledRec ·)) && c.veiledFits P fn.params.toList (fn.params.toList ++ s.plain.varTypes P ++ fn.resultTypes.toList)) = true) : joinedFacts P f fn s c = true := by
 unfold joinedFacts
 simp only [Bool.and_eq_true] at h1 h6 h7 h8 ⊢
 obtain ⟨⟨⟨⟨⟨⟨⟨⟨a1, a2⟩, a3⟩, a4⟩, a5⟩, a6⟩, a7⟩, a8⟩, a9⟩ := h1
 obtain ⟨⟨⟨⟨⟨b1, b2⟩, b3⟩, b4⟩, b5⟩, b6⟩ := h6
 obtain ⟨⟨⟨⟨⟨⟨⟨⟨d1, d2⟩, d3⟩, d4⟩, d5⟩, d6⟩, d7⟩, d8⟩, d9⟩ := h7
 obtain ⟨⟨⟨f1, f2⟩, f3⟩, f4⟩ := h8
 exact ⟨⟨⟨⟨⟨⟨⟨⟨⟨⟨⟨⟨⟨⟨⟨⟨⟨⟨⟨⟨⟨⟨⟨⟨⟨⟨⟨⟨⟨⟨⟨a1, a2⟩, a3⟩, a4⟩, a5⟩, a6⟩, a7⟩, a8⟩, a9⟩, h2⟩, h3⟩, h4⟩, h5⟩, b1⟩, b2⟩, b3⟩, b4⟩, b5⟩, b6⟩, d1⟩, d2⟩, d3⟩, d4⟩, d5⟩, d6⟩, d7⟩, d8⟩, d9⟩, f1⟩, f2⟩, f3⟩, f4⟩
end Go.Proofs.YtkgibdhpijdbfaaGreatDoor
