/- Texts of this claim, one behind the other. -/
import Derived.Test.YtkgibdhpijdbfaaGreatDoorZ6
import Derived.Test.YtkgibdhpijdbfaaGreatDoorZ3
import Derived.Test.YtkgibdhpijdbfaaGreatDoorZ2
import Derived.Test.YtkgibdhpijdbfaaGreatDoorZ0
import Derived.Test.YtkgibdhpijdbfaaGreatDoorZ1
import Derived.Test.YtkgibdhpijdbfaaGreatDoorRows
import Derived.Stop.LaidErr
import Derived.LaidLaws
set_option linter.unusedVariables false
set_option linter.unusedSimpArgs false
namespace Go.Proofs.YtkgibdhpijdbfaaGreatDoor
open Go Go.Eng Go.Proofs Go.Srt
def RnPost (sb f : Nat) (s : StM) (m : FSm) (ps : List Bytes) (w : World) (T0 : List Nat) (v : Value) (w' : World) : Prop := ∃ e s' m' L', RnR s m ps e s' m' ∧ v = .int .i64 e ∧ StO sb f s' m' L' ∧ St w T0 L' w'
set_option maxRecDepth 8000 in
set_option maxHeartbeats 16000000 in
theorem Srenew_spec {w : World} {sb f A : Nat} {s : StM} {m : FSm} {L : Heap} (hO : StO sb f s m L) (hh : Holds L w) (hG : Glob w (keys L)) {a : Option Addr} {c : Nat} {ps : List Bytes} (ha : Arr w (keys L) a (ps.map Str)) (hps : sumLen ps + 8 * ps.length ≤ 1099511627776)
  (hn : 0 ≤ s.v.next ∧ s.v.next ≤ 1152921504606846976) (hr : rightE (wholeE (rnS s).v) = true) (ho : OkE (wholeE (rnS s).v)) (hl : s.v.files.length ≤ 8388608) (hsum : sumLen (editsB (rnS s).v) + 8 * (editsB (rnS s).v).length ≤ 1099511627776) (hB : FB A m) (hA : A + 20 ≤ 549755813888) :
  Cl Tryz.prog f_store_Store_renew [ptr sb, .slice a ps.length c] w fun v w' => RnPost sb f s m ps w (keys L) v w' := by
 have hS := St.enter hh
 have hnm := names_len (n := s.v.next) ⟨by omega, by omega⟩
 have hnm1 := names_len (n := s.v.next + 1) ⟨by omega, by omega⟩
 generalize hT : keys L = T0 at hS hG ha ⊢
 refine en_store_Store_renew rfl ?_
 refine jq ⟨?_⟩
 refine ldAt (hO.nextC hS.holds) ?_
 refine jq ⟨?_⟩
 obtain ⟨sq, es, cq, hsqM, ha1, hc1, Lh, hvh, a2, ca, La, hv, lv, Ll, hl2, gv, Lg, hgp, mb, Lm, hm, tm, et, ct, ks, ht, Lt, hts, LF, hFs⟩ := hO
 have hr2 := hv.rng
 (repeat (refine jt ⟨?_⟩; refine hS.st rfl rfl ?_; intro _ hS)); refine jt ⟨?_⟩
 have hex : ∃ L1, StO sb f (rnS s) m L1 ∧ St w T0 L1 _ := ⟨_, StO.mk (sb := sb) (s := rnS s) (m := m) sq es cq hsqM ha1 hc1 Lh hvh a2 ca La ⟨hv.vec, by unfold rnS; simp only; omega⟩ lv Ll hl2 gv Lg hgp mb Lm hm tm et ct ks ht Lt hts LF hFs, hS⟩
 clear hS hm hts hFs hh hl2 hgp hv hvh hsqM ht hr2
 obtain ⟨L1, hO1, hS⟩ := hex
 have hR1 := RnR.e1 (s := s) (m := m) (ps := ps)
 have hR2 := RnR.e2 (s := s) (m := m) (ps := ps)
 have hR3 := RnR.e3 (s := s) (m := m) (ps := ps)
 have hR4 := RnR.e4 (s := s) (m := m) (ps := ps)
 have hR5 := fun s' => RnR.e5 (s := s) (m := m) (ps := ps) s'
 have hR6 := fun s' => RnR.e6 (s := s) (m := m) (ps := ps) s'
 have hR7 := RnR.e7 (s := s) (m := m) (ps := ps)
 refine SemW.draw tblOk mixed (fun w' => St w T0 L1 w') [7, 8] [0, 1, 2, 3, 4, 6, 5, 7, 8] (by kernel_rfl) hS.drew ?_
 have hS := hS.drew
 refine jr ⟨?_⟩
 refine ldAll (fun w' h => hO1.fC h.holds) ?_
 refine jr ⟨?_⟩
 refine Cl.mono (Log_spec (n := s.v.next) ⟨by omega, by omega⟩ (hG.keep hS).tab) ?_
 rintro _ w1 ⟨rfl, hS'⟩
 have hS := hS.call0 hS'
 refine Chk.mk hS ?_
 refine jr ⟨?_⟩
 refine Cl.mono (hO1.rewrite hS.holds (wName s.v.next) (ha.stay hS) hps hB (by omega)) ?_
 rintro _ w2 ⟨rfl, L2, hO2, hS'⟩
 have hS := hS.call (L := L1) hS'
 have hB2 := hB.rewrite (wName s.v.next) ps (by rw [sealB_len]; exact hps)
 have hrn2 : rn2 s m ps = rewriteM (rewriteM m (wName s.v.next) ps).2 (lName (s.v.next + 1)) (editsB (rnS s).v) := rfl
 have hrn3 : rn3 s m ps = fileM (rn2 s m ps).2 newN (lName (s.v.next + 1)) := rfl
 have hrn4 : rn4 s m ps = renameM (rn3 s m ps).2 newN curN := rfl
 rw [show rn1 s m ps = rewriteM m (wName s.v.next) ps from rfl] at hR1 hR2 hR3 hR4 hR5 hR6 hR7
 generalize rewriteM m (wName s.v.next) ps = q1 at hO2 hB2 hrn2 hR1 hR2 hR3 hR4 hR5 hR6 hR7 ⊢
 obtain ⟨e1, m1⟩ := q1
 simp only at hO2 hB2 hrn2 hR1 hR2 hR3 hR4 hR5 hR6 hR7 ⊢
 by_cases he1 : e1 = 0
 ·subst he1
  refine jq ⟨?_⟩
  obtain ⟨av, cv, hvr, hvp⟩ := hO2.versP
  refine SemW.draw tblOk mixed (fun w' => St w T0 L2 w') [12, 13] [0, 1, 2, 3, 4, 5, 7, 8, 9, 10, 6, 11, 12, 13] (by kernel_rfl) hS.drew ?_
  have hS := hS.drew
  refine jr ⟨?_⟩
  refine ldAll (fun w' h => hO2.fC h.holds) ?_
  refine jr ⟨?_⟩
  refine ldnAll (l := versC av cv (rnS s).v) (fun w' h => (hvp w' h.holds).1) rfl ?_
  unfold versC
  refine jr ⟨?_⟩
  refine Cl.mono (List_spec (n := s.v.next + 1) ⟨by omega, by omega⟩ (hG.keep hS).tab) ?_
  rintro _ w3 ⟨rfl, hS'⟩
  have hS := hS.call0 hS'
  refine Chk.mk hS ?_
  refine jr ⟨?_⟩
  refine Cl.mono (Sedits_spec (hvp _ hS.holds).2 hr ho hl) ?_
  rintro _ w4 ⟨ae, ce, Le, rfl, hve, hS'⟩
  have hS := hS.callNew hS'
  refine Chk.mk (hS.sub (kAj _ _)) ?_
  refine jr ⟨?_⟩
  refine Cl.mono (hO2.rewrite (hS.part (L := L2)) (lName (s.v.next + 1)) (hve.arr hS (T' := keys L2) hS.disj) hsum hB2 (by omega)) ?_
  rintro _ w5 ⟨rfl, L3, hO3, hS'⟩
  have hS := (hS.call (L := L2) hS').sub (kAj _ _)
  have hB3 := hB2.rewrite (lName (s.v.next + 1)) (editsB (rnS s).v) (by rw [sealB_len]; exact hsum)
  rw [hrn2] at hrn3 hR2 hR3 hR4 hR5 hR6 hR7
  generalize rewriteM m1 (lName (s.v.next + 1)) (editsB (rnS s).v) = q2 at hO3 hB3 hrn3 hR2 hR3 hR4 hR5 hR6 hR7 ⊢
  obtain ⟨e2, m2⟩ := q2
  simp only at hO3 hB3 hrn3 hR2 hR3 hR4 hR5 hR6 hR7 ⊢
  clear hR1 hrn2
  by_cases he2 : e2 = 0
  ·subst he2
   refine jq ⟨?_⟩
   refine Cl.mono (List_spec (n := s.v.next + 1) ⟨by omega, by omega⟩ (hG.keep hS).tab) ?_
   rintro _ w6 ⟨rfl, hS'⟩
   have hS := hS.call0 hS'
   refine jq ⟨?_⟩
   refine Cl.mono (hO3.file hS.holds newN (lName (s.v.next + 1)) (by omega) hB3 (by omega)) ?_
   rintro _ w7 ⟨rfl, L4, hO4, hS'⟩
   have hS := hS.call (L := L3) hS'
   have hB4 := hB3.file newN (lName (s.v.next + 1)) (by omega)
   rw [hrn3] at hrn4 hR3 hR4 hR5 hR6 hR7
   generalize fileM m2 newN (lName (s.v.next + 1)) = q3 at hO4 hB4 hrn4 hR3 hR4 hR5 hR6 hR7 ⊢
   obtain ⟨e3, m3⟩ := q3
   simp only at hO4 hB4 hrn4 hR3 hR4 hR5 hR6 hR7 ⊢
   clear hR2 hrn3
   by_cases he3 : e3 = 0
   ·subst he3
    refine jq ⟨?_⟩
    refine ldAt (hO4.fC hS.holds) ?_
    refine jq ⟨?_⟩
    refine Cl.mono (hO4.rename hS.holds newN curN hB4 (by omega)) ?_
    rintro _ w8 ⟨rfl, L5, hO5, hS'⟩
    have hS := hS.call (L := L4) hS'
    have hB5 := hB4.ren newN curN
    rw [hrn4] at hR4 hR5 hR6 hR7
    generalize renameM m3 newN curN = q4 at hO5 hB5 hR4 hR5 hR6 hR7 ⊢
    obtain ⟨e4, m4⟩ := q4
    simp only at hO5 hB5 hR4 hR5 hR6 hR7 ⊢
    clear hR3 hrn4
    by_cases he4 : e4 = 0
    ·subst he4
     refine jq ⟨?_⟩
     refine SemW.draw tblOk mixed (fun w' => w'.cell? ⟨sb, 2, none⟩ = some (ptr f)) [] [0, 1, 2, 3, 4, 5, 6, 7, 8, 9, 10, 11, 12, 13, 14, 15] (by kernel_rfl) (hO5.fC hS.drew.holds) ?_
     have hS := hS.drew
     refine jr ⟨?_⟩
     refine ldAll (fun w' h => h) ?_
     refine jr ⟨?_⟩
     refine Cl.mono (Log_spec (n := s.v.next) ⟨by omega, by omega⟩ (hG.keep hS).tab) ?_
     rintro _ w9 ⟨rfl, hS'⟩
     have hS := hS.call0 hS'
     refine Chk.mk (hO5.fC hS.holds) ?_
     refine jr ⟨?_⟩
     by_cases h5 : openE m4 (wName s.v.next) = 0
     ·refine Cl.mono (hO5.wopen hS.holds (wName s.v.next) h5 hB5) ?_
      rintro _ w10 ⟨bl, ax, cx, Lx, rfl, hvx, hlg, hS'⟩
      have hS := (hS.call (L := L5) hS').sub (kAj _ _)
      refine Chk.mk (hO5.fC (hS.part (L := L5))) ?_
      refine jr ⟨?_⟩
      refine hO5.setLog (g := openL m4 (wName s.v.next)) hS (fun L6 w11 hO6 hS => ?_)
      refine Chk.mk (hO6.fC hS.holds) ?_
      have hO6 : StO sb f (rnL s m4) m4 L6 := hO6
      refine jr ⟨?_⟩
      refine SemW.draw tblOk mixed (fun w' => w'.cell? ⟨sb, 2, none⟩ = some (ptr f)) [] [0, 1, 2, 3, 4, 5, 6, 7, 8, 9, 10, 11, 12, 13, 14, 15, 16] (by kernel_rfl) (hO6.fC hS.drew.holds) ?_
      have hS := hS.drew
      refine jr ⟨?_⟩
      refine ldAll (fun w' h => h) ?_
      refine jr ⟨?_⟩
      refine Cl.mono (List_spec (n := s.v.next + 1) ⟨by omega, by omega⟩ (hG.keep hS).tab) ?_
      rintro _ w12 ⟨rfl, hS'⟩
      have hS := hS.call0 hS'
      refine Chk.mk (hO6.fC hS.holds) ?_
      refine jr ⟨?_⟩
      by_cases h6 : openE m4 (lName (s.v.next + 1)) = 0
      ·refine Cl.mono (hO6.wopen hS.holds (lName (s.v.next + 1)) h6 hB5) ?_
       rintro _ w13 ⟨bl2, ay, cy, Ly, rfl, hvy, hlg2, hS'⟩
       have hS := (hS.call (L := L6) hS').sub (kAj _ _)
       refine Chk.mk (hO6.fC (hS.part (L := L6))) ?_
       refine jr ⟨?_⟩
       refine hO6.setList (g := openL m4 (lName (s.v.next + 1))) hS (fun L7 w14 hO7 hS => ?_)
       refine Chk.mk (hO7.fC hS.holds) ?_
       have hO7 : StO sb f (rnM s m4) m4 L7 := hO7
       refine jr ⟨?_⟩
       refine Cl.mono (Sclear_spec hO7 hS.holds (hG.step hS) (s.v.next + 1) hB5 (by omega)) ?_
       rintro _ w15 (⟨hoff, -⟩ | ⟨hoff, ns, hp, rfl, L8, hO8, hS'⟩)
       ·exfalso
        unfold openE at h6
        rw [hoff] at h6; simp at h6
       ·have hS := hS.call (L := L7) hS'
        have hR8 := hR7 (by first | trivial | rfl) (by first | trivial | rfl) (by first | trivial | rfl) (by first | trivial | rfl) h5 h6 ns hp
        generalize clearM (rnM s m4) (s.v.next + 1) ns m4 = q8 at hO8 hR8 ⊢
        refine jq ⟨?_⟩
        exact ⟨q8.1, _, _, L8, hR8, rfl, hO8, hS⟩
      ·refine Cl.mono (hO6.wopenE hS.holds (lName (s.v.next + 1)) h6) ?_
       rintro _ w13 ⟨rfl, hS'⟩
       have hS := hS.call (L := L6) hS'
       refine Chk.mk (hO6.fC hS.holds) ?_
       refine jr ⟨?_⟩
       refine hO6.setListN hS (fun L7 w14 hO7 hS => ?_)
       refine Chk.mk (hO7.fC hS.holds) ?_
       have hR8 := hR6 { rnL s m4 with list := none } (by first | trivial | rfl) (by first | trivial | rfl) (by first | trivial | rfl) (by first | trivial | rfl) h5 h6
       generalize openE m4 (lName (s.v.next + 1)) = e9 at h6 hR8 ⊢
       refine jr ⟨?_⟩
       refine jq ⟨?_⟩
       exact ⟨e9, _, _, L7, hR8, rfl, hO7, hS⟩
     ·refine Cl.mono (hO5.wopenE hS.holds (wName s.v.next) h5) ?_
      rintro _ w10 ⟨rfl, hS'⟩
      have hS := hS.call (L := L5) hS'
      refine Chk.mk (hO5.fC hS.holds) ?_
      refine jr ⟨?_⟩
      refine hO5.setLogN hS (fun L6 w11 hO6 hS => ?_)
      refine Chk.mk (hO6.fC hS.holds) ?_
      have hR8 := hR5 { rnS s with log := none } (by first | trivial | rfl) (by first | trivial | rfl) (by first | trivial | rfl) (by first | trivial | rfl) h5
      generalize openE m4 (wName s.v.next) = e9 at h5 hR8 ⊢
      refine jr ⟨?_⟩
      refine jq ⟨?_⟩
      exact ⟨e9, _, _, L6, hR8, rfl, hO6, hS⟩
    ·refine jq ⟨?_⟩
     exact ⟨e4, _, _, L5, hR4 (by first | trivial | rfl) (by first | trivial | rfl) (by first | trivial | rfl) he4, rfl, hO5, hS⟩
   ·refine jq ⟨?_⟩
    exact ⟨e3, _, _, L4, hR3 (by first | trivial | rfl) (by first | trivial | rfl) he3, rfl, hO4, hS⟩
  ·refine jq ⟨?_⟩
   exact ⟨e2, _, _, L3, hR2 (by first | trivial | rfl) he2, rfl, hO3, hS⟩
 ·refine jq ⟨?_⟩
  exact ⟨e1, _, _, L2, hR1 he1, rfl, hO2, hS⟩
end Go.Proofs.YtkgibdhpijdbfaaGreatDoor
namespace Go.Proofs.YtkgibdhpijdbfaaGreatDoor
open Go Go.Eng Go.Proofs
theorem intsC_one (l : List Int) : (l.map intV).all Value.oneCell' = true := by
 induction l with
 |nil => rfl
 |cons p ps ih => rw [kAh, List.all_cons, ih]; rfl
set_option maxHeartbeats 2000000 in
theorem cloneInt_spec {w : World} {a : Option Addr} {cap : Nat} {l : List Int} (ha : Arr w [] a (l.map intV)) (hlen : l.length ≤ 1099511627776) :
  Cl Tryz.prog f_slices_Clone_int_int [.slice a l.length cap] w fun v w' => ∃ a' c' L, v = .slice a' l.length c' ∧ Vec T_int 1 a' l.length c' (l.map intV) L ∧ St w [] L w' := by
 have hS := St.start w
 refine en_slices_Clone_int_int rfl ?_
 rcases a with _ | p
 ·have hl : l = [] := by
   cases l with
   |nil => rfl
   |cons x l => obtain ⟨g, off, h, -⟩ := ha.get (j := 0) (by simp); cases h
  subst hl
  refine jq ⟨?_⟩
  refine eqlSlNil tblOk rfl rfl ?_
  refine jq ⟨?_⟩
  exact ⟨_, _, [], rfl, Vec.nil, hS⟩
 ·refine jq ⟨?_⟩
  refine eqlSlNil tblOk rfl rfl ?_
  refine jq ⟨?_⟩
  refine hS.al ?_
  intro r w1 _ hS
  have hv : Vec T_int 1 (some ⟨r, 0, none⟩) 0 0 [] [(r, .cells ⟨[]⟩ T_int (0, 0))] := Vec.row r 0 0 [] [] rfl rfl (kAd _)
  refine jq ⟨?_⟩
  refine St.app (sz := 1) (m := l.length) tblOk rfl rfl rfl rfl hS hv (news := l.map intV) (by simp) (hS.arrOld ha) (intsC_one l) (by show (_ + _) * 8 ≤ _; omega) (by omega) ?_
  intro a1 c1 L1 w2 hv hS
  rw [kBj, kBl] at hv
  rw [kBl]
  refine jq ⟨?_⟩
  exact ⟨a1, c1, L1, rfl, hv, hS⟩
end Go.Proofs.YtkgibdhpijdbfaaGreatDoor
namespace Go.Proofs.YtkgibdhpijdbfaaGreatDoor
open Go Go.Eng Go.Proofs Go.Srt
def bsP (bs : List (Int × List OpM)) : List Bytes := bs.map fun b => payB b.1 b.2
def tkS (s : StM) (b : Int × List OpM) : StM := { s with seq := if s.seq < b.1 then b.1 else s.seq, mem := takeO b.1 (b.2.map cleanO) s.mem, adds := s.adds + b.2.length }
def opS (mm fan : Int) (hs : List Int) (v : VM) (ts : List (Int × List EntM)) : StM := ⟨0, [], if mm < 1 then 1 else mm, if fan < 1 then 1 else fan, hs, v, none, none, [], 0, ts, v.seq, false⟩
def tkA (s : StM) (bs : List (Int × List OpM)) : StM := bs.foldl tkS s
def szB (bs : List (Int × List OpM)) : Nat := (bs.map fun b => sizeO b.2).sum
theorem tkA_succ (s : StM) (bs : List (Int × List OpM)) (k : Nat) (hk : k < bs.length) : tkA s (bs.take (k + 1)) = tkS (tkA s (bs.take k)) bs[k] := by
 unfold tkA; rw [kAn hk, kCn]; rfl
theorem tkA_v (s : StM) : ∀ (bs : List (Int × List OpM)), (tkA s bs).v = s.v := by
 intro bs
 induction bs generalizing s with
 |nil => rfl
 |cons b bs ih => exact (ih (tkS s b)).trans rfl
theorem sizeO_clean (ops : List OpM) : sizeO (ops.map cleanO) ≤ sizeO ops := by
 unfold sizeO
 rw [kBz]
 induction ops with
 |nil => simp
 |cons o ops ih =>
  simp only [kAh, kCj, Function.comp] at ih ⊢
  have : szO (cleanO o) ≤ szO o := by unfold szO cleanO; simp only; split <;> simp
  omega
theorem tkA_mem (s : StM) (hr : Rise s.mem) : ∀ (bs : List (Int × List OpM)), Rise (tkA s bs).mem ∧ szsE (tkA s bs).mem ≤ szsE s.mem + szB bs ∧ (tkA s bs).mem.length ≤ s.mem.length + szB bs ∧ (tkA s bs).adds ≤ s.adds + szB bs := by
 intro bs
 induction bs generalizing s with
 |nil => exact ⟨hr, kAd _, kAd _, kAd _⟩
 |cons b bs ih =>
  have h1 := takeO_sz b.1 (b.2.map cleanO) s.mem
  have h2 := sizeO_clean b.2
  have h3 := sizeO_cnt b.2
  have hl : (b.2.map cleanO).length = b.2.length := by simp
  obtain ⟨i1, i2, i3, i4⟩ := ih (tkS s b) (takeO_rise b.1 _ hr)
  have e : szB (b :: bs) = sizeO b.2 + szB bs := by unfold szB; simp
  refine ⟨i1, kBb i2 ?_, kBb i3 ?_, kBb i4 ?_⟩
  ·show szsE (takeO b.1 (b.2.map cleanO) s.mem) + _ ≤ _; omega
  ·show (takeO b.1 (b.2.map cleanO) s.mem).length + _ ≤ _; omega
  ·show s.adds + b.2.length + _ ≤ _; omega
theorem szB_take (bs : List (Int × List OpM)) (k : Nat) (hk : k < bs.length) : szB (bs.take k) + sizeO bs[k].2 ≤ szB bs := by
 have h := congrArg szB (kAu k bs).symm
 unfold szB at h ⊢
 rw [kAi, kCf, kBs hk, kAh, kCj] at h
 omega
def OpPost (f : Nat) (m : FSm) (s0 : StM) (ps : List Bytes) (w : World) (T0 : List Nat) (v : Value) (w' : World) : Prop := ∃ e s' m', RnR s0 m ps e s' m' ∧
 ((e = 0 ∧ ∃ sb L', v = .tuple ⟨[ptr sb, .int .i64 0]⟩ ∧ StO sb f s' m' L' ∧ St w T0 L' w') ∨ (e ≠ 0 ∧ v = .tuple ⟨[.pointer none, .int .i64 e]⟩ ∧ ∃ LF, FSo f m' LF ∧ St w T0 LF w'))
theorem opIn {w0 w : World} {T : List Nat} {p q r s t : Nat × Obj} {Lm Lh Lp La Lt L : Heap} (h : St w0 T (Lm ++ p :: q :: r :: (Lh ++ s :: (Lp ++ (La ++ t :: (Lt ++ L))))) w) : St w0 T (r :: (Lp ++ (p :: q :: t :: (Lh ++ (La ++ (Lm ++ (Lt ++ L))))))) w := by
 have h2 : St w0 T (Lm ++ p :: q :: r :: (Lh ++ (Lp ++ (La ++ t :: (Lt ++ L))))) w := h.sub ((List.Sublist.refl Lm).append (.cons_cons _ (.cons_cons _ (.cons_cons _ ((List.Sublist.refl Lh).append (kAb _ _))))))
 refine St.perm h2 ?_
 classical
 refine kDf.2 fun a => ?_
 simp only [kCl, kDa, List.count_nil]
 omega
set_option maxRecDepth 8000 in
set_option maxHeartbeats 16000000 in
theorem Open_spec {w : World} {f A : Nat} {m : FSm} {L : Heap} (hF : FSo f m L) (hh : Holds L w) (hG : Glob w (keys L)) {a : Option Addr} {c : Nat} {hs : List Int} {mm fan : Int} (ha : Arr w (keys L) a (hs.map intV)) (hhl : hs.length ≤ 1099511627776) (hoff : m.off = false)
  {v : VM} {ts : List (Int × List EntM)} {bs : List (Int × List OpM)} (hfd : ∀ w, Holds L w → Glob w (keys L) → Cl Tryz.prog f_store_find [ptr f] w fun r w' => FnPost v ts (bsP bs) w (keys L) L r w')
  (hbq : ∀ b ∈ bs, i64ok b.1) (hsz : szB bs ≤ 549755813888) (hps : sumLen (bsP bs) + 8 * (bsP bs).length ≤ 1099511627776)
  (hn : 0 ≤ v.next ∧ v.next ≤ 1152921504606846976) (hr : rightE (wholeE { v with wal := v.next, next := v.next + 2 }) = true) (ho : OkE (wholeE { v with wal := v.next, next := v.next + 2 })) (hl : v.files.length ≤ 8388608)
  (hsum : sumLen (editsB { v with wal := v.next, next := v.next + 2 }) + 8 * (editsB { v with wal := v.next, next := v.next + 2 }).length ≤ 1099511627776) (hB : FB A m) (hA : A + 20 ≤ 549755813888) :
  Cl Tryz.prog f_store_Open [ptr f, .agg ⟨[.int .i64 mm, .int .i64 fan, .slice a hs.length c]⟩] w fun r w' => OpPost f m (tkA (opS mm fan hs v ts) bs) (bsP bs) w (keys L) r w' := by
 have hS := St.enter hh
 generalize hT : keys L = T0 at hS hG ha ⊢
 refine en_store_Open rfl ?_
 (repeat (refine jt ⟨?_⟩; refine hS.st rfl rfl ?_; intro _ hS)); refine jt ⟨?_⟩
 refine hS.al ?_
 intro b3 w1 _ hS
 (repeat (refine jt ⟨?_⟩; refine hS.st rfl rfl ?_; intro _ hS)); refine jt ⟨?_⟩
 refine Cl.mono (Down_spec hF (hS.part (L := L))) ?_
 rintro _ w2 ⟨rfl, hS'⟩
 have hS := hS.call (L := L) hS'
 rw [hoff]
 (repeat (refine jt ⟨?_⟩; refine hS.st rfl rfl ?_; intro _ hS)); refine jt ⟨?_⟩
 refine Cl.mono (cloneInt_spec ((hS.arrOld ha).sub (by simp)) hhl) ?_
 rintro _ w3 ⟨a4, c4, Lh, rfl, hvh, hS'⟩
 have hS := hS.callNew hS'
 (repeat (refine jt ⟨?_⟩; refine hS.st rfl rfl ?_; intro _ hS)); refine jt ⟨?_⟩
 refine Cl.mono (hfd _ (hS.part (L := L)) (hT ▸ (hG.keep hS))) ?_
 rintro _ w4 ⟨a5, c5, La, tm, et, ct, ks, Lt, pa, pc, Lp, rfl, hvv, hmt, hts, hvp, hS'⟩
 have hS := hS.call (L := L) hS'
 (repeat (refine jt ⟨?_⟩; refine hS.st rfl rfl ?_; intro _ hS)); refine jt ⟨?_⟩
 refine hS.al ?_
 intro b6 w5 _ hS
 (repeat (refine jt ⟨?_⟩; refine hS.st rfl rfl ?_; intro _ hS)); refine jt ⟨?_⟩
 refine hS.al ?_
 intro sq w6 _ hS
 (repeat (refine jt ⟨?_⟩; refine hS.st rfl rfl ?_; intro _ hS)); refine jt ⟨?_⟩
 refine hS.al ?_
 intro sb w7 _ hS
 (repeat (refine jt ⟨?_⟩; refine hS.st rfl rfl ?_; intro _ hS)); refine jt ⟨?_⟩
 refine Cl.mono (MNew_spec (hvh.arr hS (by simp)) hhl) ?_
 rintro _ w8 ⟨mb, Lm, rfl, hmm, hS'⟩
 have hS := hS.callNew hS'
 (repeat (refine jt ⟨?_⟩; refine hS.st rfl rfl ?_; intro _ hS)); refine jt ⟨?_⟩
 have hex : ∃ L1, StO sb f (opS mm fan hs v ts) m L1 ∧ St w T0 ((b6, .cells ⟨[.slice a5 v.files.length c5, .int .i64 v.wal, .int .i64 v.next, .int .i64 v.seq, .map (some tm), .slice pa (bsP bs).length pc]⟩ T_store_found (0, 0)) :: (Lp ++ L1)) _ :=
  ⟨_, StO.mk (sb := sb) (s := opS mm fan hs v ts) (m := m) sq #[] 0 ⟨rfl, by simp [Stamp]⟩ a4 c4 Lh hvh a5 c5 La hvv (.pointer none) [] LogP.none (.pointer none) [] LogP.none mb Lm hmm tm et ct ks hmt Lt hts L hF, (by have h9 := opIn hS; exact h9)⟩
 clear hS hS' hmt hts hmm hvh hvv hF
 obtain ⟨L1, hO1, hS⟩ := hex
 have hrise0 : Rise (opS mm fan hs v ts).mem := by simp [Rise, opS]
 have hs0 : szsE (opS mm fan hs v ts).mem = 0 ∧ (opS mm fan hs v ts).mem.length = 0 ∧ (opS mm fan hs v ts).adds = 0 := ⟨rfl, rfl, rfl⟩
 have hv0 : (opS mm fan hs v ts).v = v := rfl
 generalize opS mm fan hs v ts = s0 at hO1 hrise0 hs0 hv0 ⊢
 have hlen : (bsP bs).length = bs.length := by unfold bsP; rw [kAv]
 have hcb : bs.length ≤ 1099511627776 := by omega
 have hGs := fun (w' : World) (H : Heap) (h : St w T0 H w') => hG.step h
 refine SemW.loop (fun k : Nat => [(8, ptr sb), (6, ptr b6), (59, .slice pa (bsP bs).length pc), (60, .int .i64 (bsP bs).length), (61, .int .i64 k)])
  (fun k w' => k ≤ bs.length ∧ ∃ L', StO sb f (tkA s0 (bs.take k)) m L' ∧ St w T0 ((b6, .cells ⟨[.slice a5 v.files.length c5, .int .i64 v.wal, .int .i64 v.next, .int .i64 v.seq, .map (some tm), .slice pa (bsP bs).length pc]⟩ T_store_found (0, 0)) :: (Lp ++ L')) w') (fun k => bs.length - k) 0
  ⟨rfl, rfl, rfl, rfl, rfl, trivial⟩ ⟨kAg _, L1, hO1, hS⟩ ?_
 clear hS hO1
 rintro k w9 ⟨hk, L1, hO1, hS⟩
 by_cases hkl : k < bs.length
 ·have hpa := hvp.arr hS (T' := []) (by simp)
  obtain ⟨g, off, rfl, -⟩ := hpa.get (j := 0) (by rw [kAv]; omega)
  have hget : ((bsP bs).map Str)[k]? = some (Str (payB bs[k].1 bs[k].2)) := by simp [bsP, hkl]
  have hbk := hbq _ (kAx hkl)
  have hszk := szB_take bs k hkl
  have hsucc := tkA_succ s0 bs k hkl
  obtain ⟨m1, m2, m3, m4⟩ := tkA_mem s0 hrise0 (bs.take k)
  generalize tkA s0 (bs.take k) = s1 at hO1 hsucc m1 m2 m3 m4
  generalize bs[k] = b at hget hbk hszk hsucc
  (repeat (refine jt ⟨?_⟩; refine hS.st rfl rfl ?_; intro _ hS)); refine jt ⟨?_⟩
  refine Arr.ldc (St.start w9) hpa hget (by simp) ?_
  (repeat (refine jt ⟨?_⟩; refine hS.st rfl rfl ?_; intro _ hS)); refine jt ⟨?_⟩
  refine Cl.mono (Sbatch_spec hbk (by omega)) ?_
  rintro _ w10 ⟨ab, cb, Lb, rfl, hvb, hS'⟩
  have hS := hS.callNew hS'
  have hsC := hO1.seqC (hS.part (L := L1))
  (repeat (refine jt ⟨?_⟩; refine hS.st rfl rfl ?_; intro _ hS)); refine jt ⟨?_⟩
  refine ldAt hsC ?_
  (repeat (refine jt ⟨?_⟩; refine hS.st rfl rfl ?_; intro _ hS)); refine jt ⟨?_⟩
  obtain ⟨sq2, es2, c2, hsq2, ha2, hc2, Lh2, hvh2, a2, ca2, La2, hv2, lv2, Ll2, hl2, gv2, Lg2, hg2, mb2, Lm2, hm2, tm2, et2, ct2, ks2, ht2, Lt2, hts2, LF2, hF2⟩ := hO1
  (repeat (refine jt ⟨?_⟩; refine hS.st rfl rfl ?_; intro _ hS)); refine jt ⟨?_⟩
  have hex : ∃ L2, StO sb f { s1 with seq := if s1.seq < b.1 then b.1 else s1.seq } m L2 ∧ St w T0 (Lb ++ ((b6, .cells ⟨[.slice a5 v.files.length c5, .int .i64 v.wal, .int .i64 v.next, .int .i64 v.seq, .map (some tm), .slice (some ⟨g, off, none⟩) (bsP bs).length pc]⟩ T_store_found (0, 0)) :: (Lp ++ L2))) _ :=
   ⟨_, StO.mk (sb := sb) (s := { s1 with seq := if s1.seq < b.1 then b.1 else s1.seq }) sq2 es2 c2 hsq2 ha2 hc2 Lh2 hvh2 a2 ca2 La2 hv2 lv2 Ll2 hl2 gv2 Lg2 hg2 mb2 Lm2 hm2 tm2 et2 ct2 ks2 ht2 Lt2 hts2 LF2 hF2, hS⟩
  clear hS hS' hm2 hts2 hl2 hg2 hv2 hvh2 hsq2 ht2 hF2
  obtain ⟨L2, hO2, hS⟩ := hex
  have hcl := sizeO_clean b.2
  have hcn := sizeO_cnt b.2
  have hln : (b.2.map cleanO).length = b.2.length := by simp
  have htk := Stake_spec (w := by assumption) hO2 (hS.part (L := L2)) b.1 (c := cb) (ops := b.2.map cleanO) (hvb.arr hS (T' := keys L2) hS.disj) m1 (by show szsE s1.mem + _ ≤ _; omega) (by show s1.mem.length + _ ≤ _; omega) (by show s1.adds + _ ≤ _; omega)
  rw [hln] at htk
  refine Cl.mono htk ?_
  rintro _ w12 ⟨L3, hO3, hS'⟩
  have hS := (hS.call (L := L2) hS').sub (kAj _ _)
  (repeat (refine jt ⟨?_⟩; refine hS.st rfl rfl ?_; intro _ hS)); refine jt ⟨?_⟩
  refine ⟨k + 1, ⟨rfl, rfl, rfl, rfl, rfl, trivial⟩, ⟨by omega, L3, ?_, hS⟩, by omega⟩
  rw [hsucc]; exact hO3
 ·obtain rfl : k = bs.length := by omega
  rw [kAr] at hO1
  (repeat (refine jt ⟨?_⟩; refine hS.st rfl rfl ?_; intro _ hS)); refine jt ⟨?_⟩
  obtain ⟨m1, m2, m3, m4⟩ := tkA_mem s0 hrise0 bs
  have hvk : (tkA s0 bs).v = v := (tkA_v s0 bs).trans hv0
  have hrv : (rnS (tkA s0 bs)).v = { v with wal := v.next, next := v.next + 2 } := by unfold rnS; rw [hvk]
  refine Cl.mono (Srenew_spec hO1 (hS.part (L := L1)) ((hG.step hS).sub (by intro b hb; simp only [keys, kAh, kAi, kAf, kAl]; exact .inr (.inr hb))) (hvp.arr hS (T' := keys L1) ((hS.sub (kAb _ _) : St w T0 (Lp ++ L1) _).disj (L := L1))) hps (by rw [hvk]; exact hn) (by rw [hrv]; exact hr) (by rw [hrv]; exact ho) (by rw [hvk]; exact hl) (by rw [hrv]; exact hsum) hB hA) ?_
  rintro _ w10 ⟨e, s', m', L', hR, rfl, hO2, hS'⟩
  have hS := (hS.call (L := L1) hS').sub ((kAj Lp _).trans (kAb _ _))
  by_cases he : e = 0
  ·subst he
   (repeat (refine jt ⟨?_⟩; refine hS.st rfl rfl ?_; intro _ hS)); refine jt ⟨?_⟩
   exact ⟨0, s', m', hR, .inl ⟨rfl, sb, L', rfl, hO2, hS⟩⟩
  ·(repeat (refine jt ⟨?_⟩; refine hS.st rfl rfl ?_; intro _ hS)); refine jt ⟨?_⟩
   obtain ⟨o, R, LF, rfl, hF2, -⟩ := hO2.fs
   exact ⟨e, s', m', hR, .inr ⟨he, rfl, LF, hF2, hS.sub ((kAj R LF).trans (kAb _ _))⟩⟩
abbrev Looks := Int → Option (List RecM)
def Sto (sb f c e : Nat) (gv : Int) (now : List RecM) (lk : Looks) (L : Heap) : Prop := ∃ s m, StO sb f s m L ∧ Inv c e s m now lk ∧ s.given = gv
theorem Sto.more {sb f c c' e e' : Nat} {gv : Int} {now : List RecM} {lk : Looks} {L : Heap} (h : Sto sb f c e gv now lk L) (hc : c ≤ c') (he : e ≤ e') (hc1 : c' ≤ 1048576) (he1 : e' ≤ 262144) : Sto sb f c' e' gv now lk L := by
 obtain ⟨s, m, h1, h2, h3⟩ := h
 exact ⟨s, m, h1, h2.more hc he hc1 he1, h3⟩
theorem Inv.rd {c e : Nat} {s : StM} {m : FSm} {now : List RecM} {lk : Looks} (h : Inv c e s m now lk) : SRd s := h.core.rd h.bud (by have := h.e1; omega) (by have := h.c1; omega)
theorem Inv.tabRise {c e : Nat} {s : StM} {m : FSm} {now : List RecM} {lk : Looks} (h : Inv c e s m now lk) : ∀ x ∈ s.tabs, Rise x.2 := fun x hx => (h.core.tab x hx).1.rise
theorem KWrite {w : World} {sb f c e : Nat} {gv : Int} {now : List RecM} {lk : Looks} {L : Heap} (h : Sto sb f c e gv now lk L) (hh : Holds L w) (hG : Glob w (keys L)) {a : Option Addr} {cp : Nat} {ops : List OpM} (ha : Arr w (keys L) a (ops.flatMap opDC)) (hl : sizeO ops ≤ 1099511627776) (he : e + ops.length ≤ 262144) (hc : c + 1 ≤ 1048576) :
  Cl Tryz.prog f_store_Store_Write [ptr sb, .slice a ops.length cp] w fun v w' => v = .int .i64 (if 4096 < sizeO ops then 2 else 0) ∧ ∃ L', Sto sb f (c + 1) (e + ops.length) gv (if 4096 < sizeO ops then now else writeL now ops) lk L' ∧ St w (keys L) L' w' := by
 obtain ⟨s, m, hO, hI, rfl⟩ := h
 obtain ⟨g, hg, hgl⟩ := hI.bud.log
 have hcnt := hI.core.cnt
 have hsq := hI.bud.seq
 have had := hI.core.adds
 have hgn := hgl.num
 have hsz : szsE s.mem ≤ 549755813888 := by
  have h1 := szsE_le 4096 s.mem hI.core.mem.sz
  have h2 : 4096 * s.mem.length ≤ 4096 * 262144 := Nat.mul_le_mul_left _ (by omega)
  omega
 refine (SWrite_spec hO hh hG ha hl hI.bud.ft (by omega) (by omega) hg (by omega) hI.core.mem.rise hsz (by omega) (by omega) ⟨hI.core.seq, by omega⟩ ?_).mono ?_
 ·intro g' m1 h1 h2 h3 h4
  obtain ⟨g2, m2, h5, h6, h7⟩ := take_inv hI h1 he hg
  rw [h4] at h5
  cases h5
  exact fl_ok h6 h7 hc he
 ·rintro v w' ⟨r, s', m', L', hw, rfl, hO', hS⟩
  obtain ⟨rfl, h2, h3⟩ := write_inv hI he hc hw
  exact ⟨rfl, L', ⟨s', m', hO', h2, h3⟩, hS⟩
theorem KGet {w : World} {sb f c e : Nat} {gv : Int} {now : List RecM} {lk : Looks} {L : Heap} (h : Sto sb f c e gv now lk L) (hh : Holds L w) (k : Bytes) (hk : k.length ≤ 1099511627776) :
  Cl Tryz.prog f_store_Store_Get [ptr sb, Str k] w fun v w' => v = .tuple ⟨[Str ((lookR now k).getD []), .bool (lookR now k).isSome, .int .i64 0]⟩ ∧ St w (keys L) L w' := by
 obtain ⟨s, m, hO, hI, rfl⟩ := h
 refine (Get_spec hO hh k hk hI.rd).mono ?_
 rintro v w' (⟨hd, -⟩ | ⟨-, b, hb, rfl, hS⟩)
 ·rw [hI.down] at hd; cases hd
 ·obtain ⟨h1, h2⟩ := get_view hI.core.mem.rise hI.tabRise hI.core.one hI.core.fine hb hI.core.view
  rw [h1, h2]
  exact ⟨rfl, hS⟩
theorem KScan {w : World} {sb f c e : Nat} {gv : Int} {now : List RecM} {lk : Looks} {L : Heap} (h : Sto sb f c e gv now lk L) (hh : Holds L w) (k to : Bytes) :
  Cl Tryz.prog f_store_Store_Scan [ptr sb, Str k, Str to] w fun v w' => ∃ a cp Lv, v = .tuple ⟨[.slice a ((now.filter (inK k to)).map rop).length cp, .int .i64 0]⟩ ∧ Vec T_api_Op 3 a ((now.filter (inK k to)).map rop).length cp (((now.filter (inK k to)).map rop).flatMap opDC) Lv ∧ St w (keys L) (Lv ++ L) w' := by
 obtain ⟨s, m, hO, hI, rfl⟩ := h
 refine (Scan_S hO hh k to hI.rd).mono ?_
 rintro v w' (⟨hd, -⟩ | ⟨-, ops, hs, a, cp, Lv, rfl, hv, hS⟩)
 ·rw [hI.down] at hd; cases hd
 ·obtain rfl := scan_view hs hI.core.view
  exact ⟨a, cp, Lv, rfl, hv, hS⟩
def atE (lk : Looks) (n : Int) : Int := if (lk n).isSome then 0 else 3
theorem atM_inv {c e : Nat} {s : StM} {m : FSm} {now : List RecM} {lk : Looks} (h : Inv c e s m now lk) (n : Int) : (atM s m n).2 = atE lk n ∧ (atS s m = s) ∧ ((atM s m n).2 = 0 → ∃ rs, lk n = some rs ∧ View (allE s) (atM s m n).1 rs) := by
 have hd := h.down
 have hl := h.core.looks n
 unfold atE
 rw [← look_some h.core n]
 unfold downS at hd
 refine ⟨?_, atS_up h.down, ?_⟩
 ·unfold atM
  rw [hd]
  cases kget n s.seqs <;> rfl
 ·unfold atM
  rw [hd]
  cases hk : kget n s.seqs with
  |none => intro h0; cases h0
  |some q => rw [hk] at hl; intro _; exact hl
theorem KGetAt {w : World} {sb f c e : Nat} {gv : Int} {now : List RecM} {lk : Looks} {L : Heap} (h : Sto sb f c e gv now lk L) (hh : Holds L w) (n : Int) (k : Bytes) (hk : k.length ≤ 1099511627776) :
  Cl Tryz.prog f_store_Store_GetAt [ptr sb, .int .i64 n, Str k] w fun v w' => v = .tuple ⟨[Str ((lookR ((lk n).getD []) k).getD []), .bool (lookR ((lk n).getD []) k).isSome, .int .i64 (atE lk n)]⟩ ∧ ∃ L', Sto sb f c e gv now lk L' ∧ St w (keys L) L' w' := by
 obtain ⟨s, m, hO, hI, rfl⟩ := h
 obtain ⟨h1, h2, h3⟩ := atM_inv hI n
 refine (GetAt_spec hO hh n k hk hI.rd).mono ?_
 rintro v w' (⟨hd, rfl, L', hO', hS⟩ | ⟨hd, b, hb, rfl, L', hO', hS⟩)
 ·rw [h2] at hO'
  rw [h1] at hd ⊢
  have hn : lk n = none := by
   unfold atE at hd
   cases hl : lk n with
   |none => rfl
   |some rs => rw [hl] at hd; exact absurd rfl hd
  rw [hn]
  exact ⟨rfl, L', ⟨s, m, hO', hI, rfl⟩, hS⟩
 ·obtain ⟨rs, h4, h5⟩ := h3 hd
  obtain ⟨h6, h7⟩ := get_view hI.core.mem.rise hI.tabRise hI.core.one hI.core.fine hb h5
  rw [← h1, hd, h6, h7, h4]
  exact ⟨rfl, L', ⟨s, m, hO', hI, rfl⟩, hS⟩
theorem KScanAt {w : World} {sb f c e : Nat} {gv : Int} {now : List RecM} {lk : Looks} {L : Heap} (h : Sto sb f c e gv now lk L) (hh : Holds L w) (n : Int) (k to : Bytes) :
  Cl Tryz.prog f_store_Store_ScanAt [ptr sb, .int .i64 n, Str k, Str to] w fun v w' => ∃ a cp Lv L', v = .tuple ⟨[.slice a ((((lk n).getD []).filter (inK k to)).map rop).length cp, .int .i64 (atE lk n)]⟩ ∧ Vec T_api_Op 3 a ((((lk n).getD []).filter (inK k to)).map rop).length cp (((((lk n).getD []).filter (inK k to)).map rop).flatMap opDC) Lv ∧ Sto sb f c e gv now lk L' ∧ St w (keys L) (Lv ++ L') w' := by
 obtain ⟨s, m, hO, hI, rfl⟩ := h
 obtain ⟨h1, h2, h3⟩ := atM_inv hI n
 refine (ScanAt_spec hO hh n k to hI.rd).mono ?_
 rintro v w' (⟨hd, rfl, L', hO', hS⟩ | ⟨hd, ops, hs, a, cp, Lv, rfl, hv, L', hO', hS⟩)
 ·rw [h2] at hO'
  rw [h1] at hd ⊢
  have hn : lk n = none := by
   unfold atE at hd
   cases hl : lk n with
   |none => rfl
   |some rs => rw [hl] at hd; exact absurd rfl hd
  rw [hn]
  exact ⟨none, 0, [], L', rfl, Vec.nil, ⟨s, m, hO', hI, rfl⟩, hS⟩
 ·obtain ⟨rs, h4, h5⟩ := h3 hd
  obtain rfl := scan_view hs h5
  rw [← h1, hd, h4]
  exact ⟨a, cp, Lv, L', rfl, hv, ⟨s, m, hO', hI, rfl⟩, hS⟩
theorem KSnap {w : World} {sb f c e : Nat} {gv : Int} {now : List RecM} {lk : Looks} {L : Heap} (h : Sto sb f c e gv now lk L) (hh : Holds L w) (hc : c + 1 ≤ 1048576) :
  Cl Tryz.prog f_store_Store_Snap [ptr sb] w fun v w' => v = .int .i64 (gv + 1) ∧ ∃ L', Sto sb f (c + 1) e (gv + 1) now (fun n => if n = gv + 1 then some now else lk n) L' ∧ St w (keys L) L' w' := by
 obtain ⟨s, m, hO, hI, rfl⟩ := h
 have hg := hI.bud.given
 refine (Snap_spec hO hh hI.core.given (by omega)).mono ?_
 rintro v w' ⟨rfl, L', hO', hS⟩
 exact ⟨rfl, L', ⟨_, m, hO', snap_inv hI hc, rfl⟩, hS⟩
theorem KFree {w : World} {sb f c e : Nat} {gv : Int} {now : List RecM} {lk : Looks} {L : Heap} (h : Sto sb f c e gv now lk L) (hh : Holds L w) (n : Int) :
  Cl Tryz.prog f_store_looks_Free [ptr sb, .int .i64 n] w fun v w' => v = .int .i64 (atE lk n) ∧ ∃ L', Sto sb f c e gv now (fun k => if k = n then none else lk k) L' ∧ St w (keys L) L' w' := by
 obtain ⟨s, m, hO, hI, rfl⟩ := h
 refine (Free_spec hO hh n).mono ?_
 rintro v w' ⟨rfl, L', hO', hS⟩
 obtain ⟨h1, h2, h3⟩ := free_inv hI n
 exact ⟨by rw [h1]; rfl, L', ⟨_, m, hO', h2, h3⟩, hS⟩
theorem KFlush {w : World} {sb f c e : Nat} {gv : Int} {now : List RecM} {lk : Looks} {L : Heap} (h : Sto sb f c e gv now lk L) (hh : Holds L w) (hG : Glob w (keys L)) (hc : c + 1 ≤ 1048576) :
  Cl Tryz.prog f_store_Store_Flush [ptr sb] w fun v w' => v = .int .i64 0 ∧ ∃ L', Sto sb f (c + 1) e gv now lk L' ∧ St w (keys L) L' w' := by
 obtain ⟨s, m, hO, hI, rfl⟩ := h
 have he := hI.e1
 refine (StFlush_spec hO hh hG fun _ => hI.core.wr hI.bud (by omega) (by omega) (by omega) (by omega) (by omega) ⟨by omega, by omega⟩).mono ?_
 rintro v w' ⟨r, s', m', L', hw, rfl, hO', hS⟩
 obtain ⟨rfl, h2, h3⟩ := flushC_inv hI hc hw
 exact ⟨rfl, L', ⟨s', m', hO', h2, h3⟩, hS⟩
theorem KCompact {w : World} {sb f c e : Nat} {gv : Int} {now : List RecM} {lk : Looks} {L : Heap} (h : Sto sb f c e gv now lk L) (hh : Holds L w) (hG : Glob w (keys L)) (hc : c + 1 ≤ 1048576) :
  Cl Tryz.prog f_store_Store_Compact [ptr sb] w fun v w' => (∃ r, v = .int .i64 r) ∧ ∃ L', Sto sb f (c + 1) e gv now lk L' ∧ St w (keys L) L' w' := by
 obtain ⟨s, m, hO, hI, rfl⟩ := h
 have he := hI.e1
 refine (StCompact_spec hO hh hG (fun _ => hI.core.wr hI.bud (by omega) (by omega) (by omega) (by omega) (by omega) ⟨by omega, by omega⟩) ?_).mono ?_
 ·intro mk _ hp _
  obtain ⟨s1, m1, h1, h2, h3, h4, -⟩ := flush_inv hI.core hI.bud (by omega) ⟨by omega, by omega⟩ (by omega) (by omega) (by omega) hp
  rw [h1]
  exact ⟨_, _, h2.wr h3 (by omega) (by omega) (by omega) (by omega) (by omega) ⟨by omega, by omega⟩, h2.co (by omega) (by have := h3.sn; omega)⟩
 ·rintro v w' ⟨r, s', m', L', hw, rfl, hO', hS⟩
  obtain ⟨h2, h3⟩ := compactC_inv hI hc hw
  exact ⟨⟨r, rfl⟩, L', ⟨s', m', hO', h2, h3⟩, hS⟩
theorem clear_up {T : Nat} (s : StM) (list : Int) : ∀ (ns : List Bytes) {A : Nat} {m : FSm}, Up m → FT A T m → ns.Nodup → (∀ n ∈ ns, (fget m n).isSome = true) →
  (clearM s list ns m).1 = 0 ∧ Up (clearM s list ns m).2 ∧ FT (A + ns.length) T (clearM s list ns m).2 ∧ ∀ k, fget (clearM s list ns m).2 k = if k ∈ ns ∧ keepM s list k = false then none else fget m k
 |[], A, m, h, hF, _, _ => ⟨rfl, h, hF, fun k => by rw [if_neg (by simp)]; rfl⟩
 |n :: ns, A, m, h, hF, hnd, hall => by
  obtain ⟨hn1, hn2⟩ := kBq.1 hnd
  unfold clearM
  cases hk : keepM s list n with
  |true =>
   rw [if_pos rfl]
   obtain ⟨i1, i2, i3, i4⟩ := clear_up s list ns h hF hn2 fun x hx => hall x (by simp [hx])
   refine ⟨i1, i2, i3.mono (by rw [kAe]; omega) (kAd _), fun k => ?_⟩
   rw [i4]
   by_cases hkn : k = n
   ·subst hkn
    rw [if_neg (by simp [hk]), if_neg (by simp [hk])]
   ·simp [hkn]
  |false =>
   rw [if_neg (by simp)]
   obtain ⟨d1, d2, d3⟩ := delete_up h hF.fb.nd n
   rw [hall n (by simp), if_pos rfl] at d1
   rw [if_neg (by rw [d1]; simp)]
   obtain ⟨i1, i2, i3, i4⟩ := clear_up s list ns d2 (hF.del n) hn2 fun x hx => by rw [d3, if_neg (fun e : x = n => hn1 (e ▸ hx))]; exact hall x (by simp [hx])
   refine ⟨i1, i2, i3.mono (by rw [kAe]; omega) (kAd _), fun k => ?_⟩
   rw [i4, d3]
   by_cases hkn : k = n
   ·subst hkn
    rw [if_neg (by simp [hn1]), if_pos rfl, if_pos (by simp [hk])]
   ·simp [hkn]
theorem keepM_names {s : StM} {list : Int} {k : Bytes} (h : keepM s list k = true) : k = curN ∨ k = lName list ∨ k = wName s.v.wal ∨ ∃ n, (kget n s.tabs).isSome = true ∧ k = tName n := by
 have hp : ∀ c z, (parseN k).1 = c → (parseN k).2.1 = z → c ≠ 0 → k = c :: Lib.itoa z := by
  intro c z h1 h2 h3
  cases k with
  |nil => subst h1; exact absurd rfl h3
  |cons d r =>
   rw [parseN_cons] at h1 h2
   cases ha : Lib.atoiAll r with
   |ok n =>
    rw [ha] at h1 h2
    simp only at h1 h2
    cases hn : nameN d r n with
    |true =>
     rw [hn] at h1 h2
     simp only [if_true] at h1 h2
     unfold nameN at hn
     simp only [Bool.and_eq_true, decide_eq_true_eq] at hn
     subst h1 h2
     rw [hn.1.2]
    |false =>
     rw [hn] at h1
     exact absurd h1.symm h3
   |_ =>
    rw [ha] at h1
    exact absurd h1.symm h3
 unfold keepM at h
 simp only [Bool.or_eq_true, Bool.and_eq_true, decide_eq_true_eq] at h
 rcases h with ((h | ⟨h1, h2⟩) | ⟨h1, h2⟩) | ⟨h1, h2⟩
 ·exact .inl h
 ·exact .inr (.inl (hp 109 list h1 h2 (by decide)))
 ·exact .inr (.inr (.inl (hp 119 _ h1 h2 (by decide))))
 ·exact .inr (.inr (.inr ⟨_, h2, hp 116 _ h1 rfl (by decide)⟩))
theorem keep_l (s : StM) {n : Int} (h1 : 1 ≤ n) (h : i64r n) : keepM s n (lName n) = true := by
 unfold keepM lName
 rw [parseN_name (by decide) h, if_pos h1]
 simp
theorem keep_w (s : StM) (list : Int) (h1 : 1 ≤ s.v.wal) (h : i64r s.v.wal) : keepM s list (wName s.v.wal) = true := by
 unfold keepM wName
 rw [parseN_name (by decide) h, if_pos h1]
 simp
theorem keep_t (s : StM) (list : Int) {n : Int} (h1 : 1 ≤ n) (h : i64r n) (hs : (kget n s.tabs).isSome = true) : keepM s list (tName n) = true := by
 unfold keepM tName
 rw [parseN_name (by decide) h, if_pos h1]
 simp [hs]
theorem keep_cur (s : StM) (list : Int) : keepM s list curN = true := by unfold keepM; simp
structure RnOut (s : StM) (m : FSm) (ps : List Bytes) (s' : StM) (m' : FSm) : Prop where
 st : s' = { rnS s with log := some ⟨ps.length, wName s.v.next, false, false⟩, list := some ⟨(editsB (rnS s).v).length, lName (s.v.next + 1), false, false⟩ }
 up : Up m'
 wal : fget m' (wName s.v.next) = some (sealB ps, (sealB ps).length)
 lst : fget m' (lName (s.v.next + 1)) = some (sealB (editsB (rnS s).v), (sealB (editsB (rnS s).v)).length)
 cur : ∃ y, fget m' curN = some (lName (s.v.next + 1), y)
 tab : ∀ x ∈ s.tabs, 1 ≤ x.1 → i64r x.1 → fget m' (tName x.1) = fget m (tName x.1)
 all : ∀ k, (fget m' k).isSome = true → keepM s' (s.v.next + 1) k = true
theorem fget_files {m : FSm} {k : Bytes} : (fget m k).isSome = true ↔ k ∈ m.files.map (·.1) := by
 unfold fget
 cases h : kget k m.files with
 |none => have := kget_none.1 h; simp [this]
 |some x => have := kget_mem h; simp only [Option.isSome_some, true_iff]; exact kAw (f := (·.1)) this
theorem delete_cnt (m : FSm) (n : Bytes) : (deleteM m n).2.files.length ≤ m.files.length := by
 unfold deleteM
 split
 ·exact kAd _
 ·simp only
  split
  ·exact kAd _
  ·exact (kdel_sub n m.files).length_le
theorem append_cnt (m : FSm) (n : Bytes) (ps : List Bytes) : (appendM m n ps).2.files.length ≤ m.files.length + 1 := by
 unfold appendM
 split
 ·exact kBr _
 split
 ·exact kBr _
 split
 ·exact kBr _
 split
 ·exact kBr _
 ·exact kput_len _ _ _
theorem sync_cnt (m : FSm) (n : Bytes) : (syncM m n).2.files.length ≤ m.files.length + 1 := by
 unfold syncM
 split
 ·exact kBr _
 ·simp only
  split
  ·exact kBr _
  ·exact kput_len _ _ _
theorem rename_cnt (m : FSm) (a b : Bytes) : (renameM m a b).2.files.length ≤ m.files.length + 1 := by
 unfold renameM
 split
 ·exact kBr _
 split
 ·exact kBr _
 ·simp only
  split
  ·exact kBr _
  ·exact kBb (kput_len _ _ _) (Nat.succ_le_succ (kdel_sub a m.files).length_le)
theorem file_cnt (m : FSm) (n t : Bytes) : (fileM m n t).2.files.length ≤ m.files.length + 2 := by
 have h1 := delete_cnt m n
 have h2 := append_cnt (deleteM m n).2 n [t]
 have h3 := sync_cnt (appendM (deleteM m n).2 n [t]).2 n
 unfold fileM
 split
 ·omega
 split <;> omega
theorem rewrite_cnt (m : FSm) (n : Bytes) (ps : List Bytes) : (rewriteM m n ps).2.files.length ≤ m.files.length + 2 := by
 unfold rewriteM
 split
 ·exact file_cnt m n _
 ·exact Nat.le_add_right _ _
theorem renew_up {A T Nf : Nat} {s : StM} {m : FSm} {ps : List Bytes} {e : Int} {s' : StM} {m' : FSm} (h : Up m) (hF : FT A T m) (hT : 536870912 ≤ T ∧ T ≤ 1099511627776) (hv : GoodV (rnS s).v) (h1 : 1 ≤ s.v.next ∧ s.v.next ≤ 1152921504606846976) (hps : okLens ps = true) (hpl : (sealB ps).length ≤ T) (hnf : m.files.length ≤ Nf) (hr : RnR s m ps e s' m') :
  e = 0 ∧ RnOut s m ps s' m' ∧ FT (A + Nf + 17) T m' := by
 have hi : i64r s.v.next := ⟨by omega, by omega⟩
 have hi1 : i64r (s.v.next + 1) := ⟨by omega, by omega⟩
 obtain ⟨w1, w2⟩ := hv.whole
 have hok := editsB_ok w2
 have hsum := editsB_sum w2 hv.num
 obtain ⟨a1, a2, a3⟩ := rewrite_up h hF.fb (named_w hi) hps
 have hF1 := hF.rewrite (wName s.v.next) ps hpl hT.2
 obtain ⟨b1, b2, b3⟩ := rewrite_up a2 hF1.fb (named_l hi1) hok
 have hF2 := hF1.rewrite (lName (s.v.next + 1)) (editsB (rnS s).v) (by rw [sealB_len]; omega) hT.2
 have hll := (names_len hi1).2.2
 obtain ⟨c1, c2, c3⟩ := file_up b2 hF2.fb named_new (lName (s.v.next + 1))
 have hF3 := hF2.file newN (lName (s.v.next + 1)) (by omega) hT.2
 obtain ⟨d1, d2, d3⟩ := rename_up c2 hF3.fb named_cur new_ne_cur (by rw [c3, if_pos rfl])
 have hF4 := hF3.ren newN curN
 have hg : ∀ k, fget (rn4 s m ps).2 k = if k = curN then some (lName (s.v.next + 1), (lName (s.v.next + 1)).length) else if k = newN then none else if k = lName (s.v.next + 1) then some (sealB (editsB (rnS s).v), (sealB (editsB (rnS s).v)).length) else if k = wName s.v.next then some (sealB ps, (sealB ps).length) else fget m k := by
  intro k
  show fget (renameM (fileM (rewriteM (rewriteM m (wName s.v.next) ps).2 (lName (s.v.next + 1)) (editsB (rnS s).v)).2 newN (lName (s.v.next + 1))).2 newN curN).2 k = _
  rw [d3, c3, b3, a3]
  split
  ·rfl
  split
  ·rfl
  ·rfl
 have hU : Up (rn4 s m ps).2 := d2
 have hF4' : FT (A + 10) T (rn4 s m ps).2 := hF4
 have hne := l_ne (s.v.next + 1)
 have hnw := w_ne s.v.next
 have gw : fget (rn4 s m ps).2 (wName s.v.next) = some (sealB ps, (sealB ps).length) := by rw [hg, if_neg hnw.1, if_neg hnw.2, if_neg (w_ne_l _ _), if_pos rfl]
 have gl : fget (rn4 s m ps).2 (lName (s.v.next + 1)) = some (sealB (editsB (rnS s).v), (sealB (editsB (rnS s).v)).length) := by rw [hg, if_neg hne.1, if_neg hne.2, if_pos rfl]
 cases hr with
 |e1 he => exact absurd a1 he
 |e2 _ he => exact absurd b1 he
 |e3 _ _ he => exact absurd c1 he
 |e4 _ _ _ he => exact absurd d1 he
 |e5 _ _ _ _ _ he => exact absurd (hU.open (named_w hi)) he
 |e6 _ _ _ _ _ _ he => exact absurd (hU.open (named_l hi1)) he
 |e7 _ _ _ _ _ _ ns hp =>
  have hst : rnM s (rn4 s m ps).2 = { rnS s with log := some ⟨ps.length, wName s.v.next, false, false⟩, list := some ⟨(editsB (rnS s).v).length, lName (s.v.next + 1), false, false⟩ } := by
   unfold rnM rnL
   rw [openL_seal hU hps gw, openL_seal hU hok gl]
  have hnd : ns.Nodup := hp.nodup_iff.2 hF4'.fb.nd
  obtain ⟨i1, i2, i3, i4⟩ := clear_up (rnM s (rn4 s m ps).2) (s.v.next + 1) ns hU hF4' hnd fun x hx => fget_files.2 (hp.mem_iff.1 hx)
  have hkeep : ∀ k, keepM (rnM s (rn4 s m ps).2) (s.v.next + 1) k = true → fget (clearM (rnM s (rn4 s m ps).2) (s.v.next + 1) ns (rn4 s m ps).2).2 k = fget (rn4 s m ps).2 k := fun k hk => by rw [i4, if_neg (by simp [hk])]
  have hnl : ns.length ≤ Nf + 7 := by
   rw [hp.length_eq, kAv]
   have l1 := rewrite_cnt m (wName s.v.next) ps
   have l2 := rewrite_cnt (rn1 s m ps).2 (lName (s.v.next + 1)) (editsB (rnS s).v)
   have l3 := file_cnt (rn2 s m ps).2 newN (lName (s.v.next + 1))
   have l4 := rename_cnt (rn3 s m ps).2 newN curN
   have l1 : (rn1 s m ps).2.files.length ≤ m.files.length + 2 := l1
   have l2 : (rn2 s m ps).2.files.length ≤ (rn1 s m ps).2.files.length + 2 := l2
   have l3 : (rn3 s m ps).2.files.length ≤ (rn2 s m ps).2.files.length + 2 := l3
   have l4 : (rn4 s m ps).2.files.length ≤ (rn3 s m ps).2.files.length + 1 := l4
   omega
  refine ⟨i1, ⟨hst, i2, ?_, ?_, ?_, fun x hx hx1 hx2 => ?_, fun k hk => ?_⟩, i3.mono (by omega) (kAd _)⟩
  ·rw [hkeep (wName s.v.next) (keep_w (rnM s (rn4 s m ps).2) _ h1.1 hi)]; exact gw
  ·rw [hkeep _ (keep_l _ (by omega) hi1)]; exact gl
  ·rw [hkeep _ (keep_cur _ _), hg, if_pos rfl]; exact ⟨_, rfl⟩
  ·have ht := t_ne x.1
   rw [hkeep _ (keep_t _ _ hx1 hx2 (by
    show (kget x.1 s.tabs).isSome = true
    cases hq : kget x.1 s.tabs with
    |some _ => rfl
    |none => exact absurd (kAw hx) (kget_none.1 hq))), hg, if_neg ht.1, if_neg ht.2, if_neg (t_ne_l _ _), if_neg fun e => w_ne_t _ _ e.symm]
  ·rw [i4] at hk
   cases hq : keepM (rnM s (rn4 s m ps).2) (s.v.next + 1) k with
   |true => rfl
   |false =>
    rw [hq] at hk
    by_cases hkn : k ∈ ns
    ·rw [if_pos ⟨hkn, rfl⟩] at hk; cases hk
    ·rw [if_neg (by simp [hkn])] at hk
     exact absurd (hp.mem_iff.2 (fget_files.1 hk)) hkn
def noLk : Looks := fun _ => none
theorem open_core {e : Nat} {s : StM} {m m' : FSm} {s' : StM} {ps : List Bytes} {now : List RecM} (hd : s.dead = false) (hmem : MemF s.mem) (htab : ∀ x ∈ s.tabs, TabF x.2 ∧ x.2 ≠ []) (hone : OneE (allE s)) (hnum : (allE s).length ≤ e) (hnl : now.length ≤ e) (had : s.adds ≤ e)
  (hgd : GoodV (rnS s).v) (hf : (s.v.files.map (·.2)).Perm (s.tabs.map (·.1))) (hn : 1 ≤ s.v.next) (hn2 : s.v.next ≤ 1152921504606846976) (hvs : s.v.seq ≤ s.seq) (hs0 : 0 ≤ s.seq) (htop : ∀ x ∈ allE s, x.s ≤ s.seq) (hgv : s.given = 0) (hsq : s.seqs = []) (hh : s.hts.length ≤ 1099511627776) (hv : View (allE s) s.seq now) (ro : RnOut s m ps s' m') :
  Core e s' m' now noLk := by
 have hst := ro.st
 have hall := ro.all
 subst hst
 refine ⟨hd, ro.up, hmem, htab, hone, hnum, hnl, had, hgd.good, hf, ?_, ?_, ?_, ?_, ?_, hvs, hs0, htop, ?_, ?_, ?_, hh, hv, ?_⟩
 ·show 1 ≤ s.v.next + 2; omega
 ·show s.v.next < s.v.next + 2; omega
 ·intro g hg; cases hg; exact ⟨_, rfl⟩
 ·intro g hg; cases hg; rfl
 ·intro k h1 h2
  have h1 : s.v.next + 2 ≤ k := h1
  cases hq : fget m' (wName k) with
  |none => rfl
  |some x =>
   have hk := hall (wName k) (by rw [hq]; rfl)
   rcases keepM_names hk with h | h | h | ⟨n, -, h⟩
   ·exact absurd h (w_ne k).1
   ·exact absurd h (w_ne_l _ _)
   ·have h3 := wName_inj ⟨by omega, by omega⟩ (⟨by show _ ≤ s.v.next; omega, by show s.v.next ≤ _; omega⟩) h
    have h3 : k = s.v.next := h3
    omega
   ·exact absurd h (w_ne_t _ _)
 ·show 0 ≤ s.given; omega
 ·intro x hx
  have hx : x ∈ s.seqs := hx
  rw [hsq] at hx; cases hx
 ·show (s.seqs.map (·.1)).Nodup
  rw [hsq]; exact List.nodup_nil
 ·intro n
  show match kget n s.seqs with
   |some q => ∃ rs, noLk n = some rs ∧ View (allE s) q rs
   |none => noLk n = none
  rw [hsq]
  rfl
theorem goodV_new : GoodV ⟨[], 1, 3, 0⟩ := ⟨⟨⟨fun f hf => (by cases hf), List.nodup_nil⟩, by decide, rfl⟩, by decide, by decide, by decide, by decide⟩
def fs0 : FSm := ⟨[], [], 0, 0, false⟩
theorem KOpen {w : World} {f : Nat} {L : Heap} (hF : FSo f fs0 L) (hh : Holds L w) (hG : Glob w (keys L)) {a : Option Addr} {c : Nat} {hs : List Int} {mm fan : Int} (ha : Arr w (keys L) a (hs.map intV)) (hhl : hs.length ≤ 1099511627776) :
  Cl Tryz.prog f_store_Open [ptr f, .agg ⟨[.int .i64 mm, .int .i64 fan, .slice a hs.length c]⟩] w fun r w' => ∃ sb L', r = .tuple ⟨[ptr sb, .int .i64 0]⟩ ∧ Sto sb f 1 0 0 [] noLk L' ∧ St w (keys L) L' w' := by
 have hB : FB 0 fs0 := ⟨kAd _, kAd _, kAd _, List.nodup_nil, fun x hx => (by cases hx), fun x hx => (by cases hx)⟩
 have hU : Up fs0 := ⟨rfl, rfl⟩
 have hw := goodV_new.whole
 refine (Open_spec (A := 0) (v := ver1) (ts := []) (bs := []) hF hh hG ha hhl rfl (fun w1 h1 _ => Sfind_new hF h1 rfl) (fun b hb => (by cases hb)) (by decide) (by decide) ⟨by decide, by decide⟩ hw.1 hw.2 (by decide) (by have := editsB_sum hw.2 (by decide); exact kBb this (by decide)) hB (by decide)).mono ?_
 rintro v w' ⟨e, s', m', hR, hO⟩
 have hbp : bsP ([] : List (Int × List OpM)) = [] := rfl
 rw [hbp] at hR
 have k1 : (tkA (opS mm fan hs ver1 []) []).v = ver1 := rfl
 have k2 : (tkA (opS mm fan hs ver1 []) []).mem = [] := rfl
 have k3 : (tkA (opS mm fan hs ver1 []) []).tabs = [] := rfl
 have k4 : (tkA (opS mm fan hs ver1 []) []).seq = 0 := rfl
 have k5 : (tkA (opS mm fan hs ver1 []) []).given = 0 := rfl
 have k6 : (tkA (opS mm fan hs ver1 []) []).seqs = [] := rfl
 have k7 : (tkA (opS mm fan hs ver1 []) []).dead = false := rfl
 have k8 : (tkA (opS mm fan hs ver1 []) []).hts = hs := rfl
 have k9 : (tkA (opS mm fan hs ver1 []) []).adds = 0 := rfl
 generalize tkA (opS mm fan hs ver1 []) [] = s0 at hR k1 k2 k3 k4 k5 k6 k7 k8 k9
 have kg : GoodV (rnS s0).v := by unfold rnS; rw [k1]; exact goodV_new
 have kl : (editsB (rnS s0).v).length ≤ 4196 := by rw [editsB_len]; exact editN_le kg.num
 have kE : allE s0 = [] := by rw [allE_eq]; unfold tabsE; rw [k2, k3]; rfl
 obtain ⟨rfl, ro, hft⟩ := renew_up (A := 0) (T := 536870912) (Nf := 0) hU ⟨hB, fun x hx => (by cases hx)⟩ (by decide) kg (by rw [k1]; decide) rfl (by decide) (kAd _) hR
 rcases hO with ⟨-, sb, L', rfl, hO, hS⟩ | ⟨he, -⟩
 ·have hst := ro.st
  refine ⟨sb, L', rfl, ⟨s', m', hO, ⟨?_, ?_, by decide, by decide⟩, ?_⟩, hS⟩
  ·exact open_core k7 (by rw [k2]; exact ⟨List.Pairwise.nil, fun x hx => (by cases hx), fun x hx => (by cases hx), fun x hx => (by cases hx), kAg _⟩) (by rw [k3]; intro x hx; cases hx) (by rw [kE]; exact List.Pairwise.nil) (by rw [kE]; exact kAd _) (kAd _) (by rw [k9]; exact kAd _) kg (by rw [k1, k3]; exact List.Perm.refl _) (by rw [k1]; decide) (by rw [k1]; decide) (by rw [k1, k4]; decide) (by rw [k4]; decide) (by rw [kE]; intro x hx; cases hx) k5 k6 (by rw [k8]; exact hhl) (by rw [kE]; exact View.nil _) ro
  ·refine ⟨hft.mono (by decide) (by decide), ?_, ?_, ?_, ?_, ?_, ?_⟩
   ·rw [hst]; show s0.v.next + 2 ≤ _; rw [k1]; decide
   ·rw [hst]; show s0.seq ≤ _; rw [k4]; decide
   ·rw [hst]; show s0.given ≤ _; rw [k5]; decide
   ·rw [hst]; show s0.seqs.length ≤ _; rw [k6]; decide
   ·rw [hst]; exact ⟨_, rfl, rfl, rfl, named_l (by rw [k1]; exact ⟨by decide, by decide⟩), by simp only; omega⟩
   ·rw [hst]; exact ⟨_, rfl, rfl, rfl, named_w (by rw [k1]; exact ⟨by decide, by decide⟩), kAg _⟩
  ·rw [hst]; exact k5
 ·exact absurd rfl he
end Go.Proofs.YtkgibdhpijdbfaaGreatDoor
namespace Go.Proofs.YtkgibdhpijdbfaaGreatDoor
open Go Go.Eng Go.Proofs
set_option maxHeartbeats 4000000 in
theorem Same12_spec {w : World} {a b : Option Addr} {ca cb : Nat} {l m : List OpM} (ha : Arr w [] a (l.flatMap opDC)) (hb : Arr w [] b (m.flatMap opDC)) (hl : l.length ≤ 1099511627776) (hm : m.length ≤ 1099511627776) :
  Cl Tryz.prog f_tarmacref12_Same [.slice a l.length ca, .slice b m.length cb] w fun v w' => v = .bool (decide (l = m)) ∧ St w [] [] w' := by
 have hS := St.start w
 refine en_tarmacref12_Same rfl ?_
 by_cases hn : l.length = m.length
 ·refine jq ⟨?_⟩
  refine SemW.loop (fun k : Nat => [(0, .slice a l.length ca), (1, .slice b m.length cb), (12, .int .i64 l.length), (13, .int .i64 k)])
   (fun k w' => k ≤ l.length ∧ (∀ i (h1 : i < l.length) (h2 : i < m.length), i < k → l[i] = m[i]) ∧ St w [] [] w') (fun k => l.length - k) 0
   ⟨rfl, rfl, rfl, rfl, trivial⟩ ⟨kAg _, fun i _ _ h => by omega, hS⟩ ?_
  clear hS
  rintro k w1 ⟨hk, heq, hS⟩
  by_cases hkl : k < l.length
  ·have hkm : k < m.length := by omega
   have hcl := opsC_len l
   have hcm := opsC_len m
   obtain ⟨g, off, rfl, -, -⟩ := ha.get (j := k * 3) (by omega)
   obtain ⟨g', off', rfl, -, -⟩ := hb.get (j := k * 3) (by omega)
   have hat := opsC_at l k hkl
   have hbt := opsC_at m k hkm
   have hnext : l[k] = m[k] → ∀ i (h1 : i < l.length) (h2 : i < m.length), i < k + 1 → l[i] = m[i] := fun h i h1 h2 h3 => by
    by_cases hik : i = k
    ·subst hik; exact h
    ·exact heq i h1 h2 (by omega)
   have hno : ¬ l[k] = m[k] → ¬ l = m := fun h he => h (by subst he; rfl)
   generalize l[k] = x at hat hnext hno
   generalize m[k] = y at hbt hnext hno
   refine jq ⟨?_⟩
   refine SemW.draw tblOk mixed (fun w' => St w [] [] w') [] [0, 1, 2, 3, 4, 5, 6, 7, 8] (by kernel_rfl) hS.drew ?_
   have hS := hS.drew
   generalize w1.drew = w1 at hS
   refine jr ⟨?_⟩
   refine Arr.ldnC ha hat rfl rfl ?_
   refine jr ⟨?_⟩
   refine Arr.ldnC hb hbt rfl rfl ?_
   refine jr ⟨?_⟩
   refine neqAgg (n := 3) (by omega) (by kernel_rfl) (eqOpD x y) ?_
   by_cases hE : x = y
   ·rw [decide_eq_true hE, Bool.not_true]
    refine jr ⟨?_⟩
    exact ⟨k + 1, ⟨rfl, rfl, rfl, rfl, trivial⟩, ⟨by omega, hnext hE, hS⟩, by omega⟩
   ·rw [decide_eq_false hE, Bool.not_false]
    refine jr ⟨?_⟩
    exact ⟨by rw [decide_eq_false (hno hE)], hS⟩
  ·refine jq ⟨?_⟩
   refine ⟨?_, hS⟩
   have : l = m := eq_from hn fun i h1 h2 => heq i h1 h2 (by omega)
   rw [decide_eq_true this]
 ·refine jq ⟨?_⟩
  refine ⟨?_, hS⟩
  have : ¬ l = m := fun h => hn (by rw [h])
  rw [decide_eq_false this]
set_option maxHeartbeats 2000000 in
theorem Long12_spec {w : World} {a : Option Addr} {c : Nat} {ops : List OpM} (ha : Arr w [] a (ops.flatMap opDC)) (hl : sizeO ops ≤ 1099511627776) (hn : ops.length ≤ 1099511627776) :
  Cl Tryz.prog f_tarmacref12_Long [.slice a ops.length c] w fun v w' => v = .bool (decide (4096 < sizeO ops)) ∧ St w [] [] w' := by
 have hS := St.start w
 have hcl := opsC_len ops
 refine en_tarmacref12_Long rfl ?_
 refine jq ⟨?_⟩
 refine SemW.loop (fun k : Nat => [(6, .slice a ops.length c), (7, .int .i64 ops.length), (8, .int .i64 k), (3, .int .i64 (sizeO (ops.take k)))]) (fun k w' => k ≤ ops.length ∧ St w [] [] w') (fun k => ops.length - k) 0
  ⟨rfl, rfl, rfl, rfl, trivial⟩ ⟨kAg _, hS⟩ ?_
 clear hS
 rintro k w1 ⟨hk, hS⟩
 by_cases hkl : k < ops.length
 ·obtain ⟨g, off, rfl, -, -⟩ := ha.get (j := k * 3) (by omega)
  have hat := opsC_at ops k hkl
  have hsucc := sizeO_take ops k hkl
  have hle := sizeO_le ops k
  have hsz := szO_le (kAx hkl)
  generalize ops[k] = o at hat hsucc hsz
  refine jq ⟨?_⟩
  refine Arr.ldn hS ha rfl (k := k * 3) hat rfl ?_
  unfold opDC
  unfold szO at hsucc hsz
  refine jq ⟨?_⟩
  refine hS.al ?_
  intro b5 w2 _ hS
  (repeat (refine jt ⟨?_⟩; refine hS.st rfl rfl ?_; intro _ hS)); refine jt ⟨?_⟩
  exact ⟨k + 1, ⟨rfl, rfl, rfl, by rw [hsucc]; exact congrArg (Value.int .i64) (by omega), trivial⟩, ⟨by omega, hS.sub (kAb _ _)⟩, by omega⟩
 ·obtain rfl : k = ops.length := by omega
  refine jq ⟨?_⟩
  rw [kAr]
  refine ⟨?_, hS⟩
  congr 1
  exact decide_eq_decide.2 (by omega)
def inB (fr to : Bytes) (o : OpM) : Bool := !Op.bytesLess o.1 fr && (decide (to = []) || Op.bytesLess o.1 to)
theorem filter_take {α : Type} (p : α → Bool) (l : List α) (k : Nat) (hk : k < l.length) : (l.take (k + 1)).filter p = (l.take k).filter p ++ if p l[k] then [l[k]] else [] := by
 rw [kAn hk, kDh]
 by_cases h : p l[k] <;> simp [h]
structure SI12 where
 k : Nat
 n : Nat
 a : Option Addr
 c : Nat
set_option maxHeartbeats 4000000 in
theorem Scan12_spec {w : World} {a : Option Addr} {c : Nat} {ops : List OpM} (ha : Arr w [] a (ops.flatMap opDC)) (fr to : Bytes) (hn : ops.length ≤ 8388608) :
  Cl Tryz.prog f_tarmacref12_Scan [.slice a ops.length c, Str fr, Str to] w fun v w' => ∃ a' c' L, v = .slice a' (ops.filter (inB fr to)).length c' ∧ Vec T_api_Op 3 a' (ops.filter (inB fr to)).length c' ((ops.filter (inB fr to)).flatMap opDC) L ∧ St w [] L w' := by
 have hS := St.start w
 have hcl := opsC_len ops
 refine en_tarmacref12_Scan rfl ?_
 refine jq ⟨?_⟩
 refine SemW.loop (fun i : SI12 => [(1, Str fr), (2, Str to), (7, .slice i.a i.n i.c), (10, .slice a ops.length c), (11, .int .i64 ops.length), (12, .int .i64 i.k)])
  (fun i w' => i.k ≤ ops.length ∧ i.n = ((ops.take i.k).filter (inB fr to)).length ∧ i.n ≤ i.k ∧ ∃ L, Vec T_api_Op 3 i.a i.n i.c (((ops.take i.k).filter (inB fr to)).flatMap opDC) L ∧ St w [] L w') (fun i => ops.length - i.k) ⟨0, 0, none, 0⟩
  ⟨rfl, rfl, rfl, rfl, rfl, rfl, trivial⟩ ⟨kAg _, rfl, kAd _, [], Vec.nil, hS⟩ ?_
 clear hS
 rintro ⟨k, n, a2, c2⟩ w1 ⟨hk, hnl, hnk, L, hv, hS⟩
 simp only at hk hnl hnk hv hS ⊢
 by_cases hkl : k < ops.length
 ·obtain ⟨g, off, rfl, -, -⟩ := ha.get (j := k * 3) (by omega)
  have hat := opsC_at ops k hkl
  have hsucc := filter_take (inB fr to) ops k hkl
  have ha1 := hS.arrOld ha
  generalize ops[k] = o at hat hsucc
  refine jq ⟨?_⟩
  refine Arr.ldn (St.start w1) ha1 rfl (k := k * 3) hat rfl ?_
  unfold opDC
  refine jq ⟨?_⟩
  refine hS.al ?_
  intro b5 w2 _ hS
  (repeat (refine jt ⟨?_⟩; refine hS.st rfl rfl ?_; intro _ hS)); refine jt ⟨?_⟩
  cases hb1 : Op.bytesLess o.1 fr with
  |true =>
   (repeat (refine jt ⟨?_⟩; refine hS.st rfl rfl ?_; intro _ hS)); refine jt ⟨?_⟩
   have hno : (if inB fr to o = true then [o] else []) = [] := by unfold inB; simp [hb1]
   rw [hno, kAk] at hsucc
   exact ⟨⟨k + 1, n, a2, c2⟩, ⟨rfl, rfl, rfl, rfl, rfl, rfl, trivial⟩, ⟨by simp only; omega, by simp only; rw [hsucc]; exact hnl, by simp only; omega, L, by simp only; rw [hsucc]; exact hv, hS.sub (kAb _ _)⟩, by simp only; omega⟩
  |false =>
   by_cases hto : to = []
   ·(repeat (refine jt ⟨?_⟩; refine hS.st rfl rfl ?_; intro _ hS)); refine jt ⟨?_⟩
    have hno : (if inB fr to o = true then [o] else []) = [o] := by unfold inB; simp [hb1, hto]
    rw [hno] at hsucc
    refine hS.al ?_
    intro r w4 _ hS
    (repeat (refine jt ⟨?_⟩; refine hS.st rfl rfl ?_; intro _ hS)); refine jt ⟨?_⟩
    refine St.app (sz := 3) (m := 1) tblOk rfl rfl rfl rfl hS hv (news := opDC o) rfl (by have := hS.arr (b := r) (T' := []) (by simp); exact this) rfl (by show (_ + _) * 40 ≤ _; omega) (by omega) ?_
    intro a3 c3 L3 w5 hv3 hS
    have hv4 : Vec T_api_Op 3 a3 (n + 1) c3 (((ops.take (k + 1)).filter (inB fr to)).flatMap opDC) L3 := by rw [hsucc, kCm]; simpa using hv3
    (repeat (refine jt ⟨?_⟩; refine hS.st rfl rfl ?_; intro _ hS)); refine jt ⟨?_⟩
    exact ⟨⟨k + 1, n + 1, a3, c3⟩, ⟨rfl, rfl, rfl, rfl, rfl, rfl, trivial⟩, ⟨by simp only; omega, by simp only; rw [hsucc, kAa, ← hnl]; rfl, by simp only; omega, L3, hv4, hS.sub ((kAb _ _).trans (kAb _ _))⟩, by simp only; omega⟩
   ·cases hb2 : Op.bytesLess o.1 to with
    |true =>
     (repeat (refine jt ⟨?_⟩; refine hS.st rfl rfl ?_; intro _ hS)); refine jt ⟨?_⟩
     rw [hb2]
     (repeat (refine jt ⟨?_⟩; refine hS.st rfl rfl ?_; intro _ hS)); refine jt ⟨?_⟩
     have hno : (if inB fr to o = true then [o] else []) = [o] := by unfold inB; simp [hb1, hb2]
     rw [hno] at hsucc
     refine hS.al ?_
     intro r w4 _ hS
     (repeat (refine jt ⟨?_⟩; refine hS.st rfl rfl ?_; intro _ hS)); refine jt ⟨?_⟩
     refine St.app (sz := 3) (m := 1) tblOk rfl rfl rfl rfl hS hv (news := opDC o) rfl (by have := hS.arr (b := r) (T' := []) (by simp); exact this) rfl (by show (_ + _) * 40 ≤ _; omega) (by omega) ?_
     intro a3 c3 L3 w5 hv3 hS
     have hv4 : Vec T_api_Op 3 a3 (n + 1) c3 (((ops.take (k + 1)).filter (inB fr to)).flatMap opDC) L3 := by rw [hsucc, kCm]; simpa using hv3
     (repeat (refine jt ⟨?_⟩; refine hS.st rfl rfl ?_; intro _ hS)); refine jt ⟨?_⟩
     exact ⟨⟨k + 1, n + 1, a3, c3⟩, ⟨rfl, rfl, rfl, rfl, rfl, rfl, trivial⟩, ⟨by simp only; omega, by simp only; rw [hsucc, kAa, ← hnl]; rfl, by simp only; omega, L3, hv4, hS.sub ((kAb _ _).trans (kAb _ _))⟩, by simp only; omega⟩
    |false =>
     (repeat (refine jt ⟨?_⟩; refine hS.st rfl rfl ?_; intro _ hS)); refine jt ⟨?_⟩
     rw [hb2]
     (repeat (refine jt ⟨?_⟩; refine hS.st rfl rfl ?_; intro _ hS)); refine jt ⟨?_⟩
     have hno : (if inB fr to o = true then [o] else []) = [] := by unfold inB; simp [hb1, hb2, hto]
     rw [hno, kAk] at hsucc
     exact ⟨⟨k + 1, n, a2, c2⟩, ⟨rfl, rfl, rfl, rfl, rfl, rfl, trivial⟩, ⟨by simp only; omega, by simp only; rw [hsucc]; exact hnl, by simp only; omega, L, by simp only; rw [hsucc]; exact hv, hS.sub (kAb _ _)⟩, by simp only; omega⟩
 ·obtain rfl : k = ops.length := by omega
  rw [kAr] at hnl hv
  refine jq ⟨?_⟩
  subst hnl
  exact ⟨a2, c2, L, rfl, hv, hS⟩
structure RecsAt (w : World) (a : Option Addr) (cap : Nat) (l : List RecM) : Prop where
 arr : Arr w [] a (l.flatMap opC)
 addr : a = none ∨ ∃ g off, a = some ⟨g, off, none⟩
 cap : l.length ≤ cap
 sorted : l.Pairwise LessR
theorem RecsAt.keep {w0 w : World} {H : Heap} (hS : St w0 [] H w) {a : Option Addr} {cap : Nat} {l : List RecM} (h : RecsAt w0 a cap l) : RecsAt w a cap l := ⟨hS.arrOld h.arr, h.addr, h.cap, h.sorted⟩
structure WI where
 l : List RecM
 k : Nat
 a : Option Addr
 c : Nat
end Go.Proofs.YtkgibdhpijdbfaaGreatDoor
namespace Go.Proofs.YtkgibdhpijdbfaaGreatDoor
open Go Go.Eng Go.Proofs Go.Srt
theorem Glob.part {w0 w : World} {T : List Nat} {H L : Heap} {F : Heap → Heap} (h : Glob w0 T) (hS : St w0 T H w) [hc : Chunk H L F] : Glob w (keys L) := (h.step hS).sub fun b hb => by
 obtain ⟨X, Y, h1, -⟩ := hc.at_
 rw [h1]
 unfold keys at hb ⊢
 rw [kAi, kAi]
 exact kBp _ (kBm _ hb)
set_option maxRecDepth 8000 in
set_option maxHeartbeats 8000000 in
theorem lives_spec {w : World} (hG : Glob w []) : Cl Tryz.prog f_tarmaclaw12_lives [] w fun v w' => v = .bool true ∧ St w [] [] w' := by
 have hS := St.start w
 refine en_tarmaclaw12_lives rfl ?_
 (repeat (refine jt ⟨?_⟩; refine hS.st rfl rfl ?_; intro _ hS)); refine jt ⟨?_⟩
 refine New_spec.mono ?_
 rintro _ w1 ⟨f, L0, rfl, -, hF, hS'⟩
 have hS := hS.callNew hS'
 rw [kAk] at hS
 (repeat (refine jt ⟨?_⟩; refine hS.st rfl rfl ?_; intro _ hS)); refine jt ⟨?_⟩
 refine Cl.mono (KOpen (hs := []) (mm := 2) (fan := 1) (c := 0) (a := none) hF hS.holds (hG.step hS) (Arr.nil _ _ _) (by decide)) ?_
 rintro _ w2 ⟨sb, L1, rfl, hK, hS'⟩
 have hS := hS.call (L := L0) hS'
 (repeat (refine jt ⟨?_⟩; refine hS.st rfl rfl ?_; intro _ hS)); refine jt ⟨?_⟩
 refine hS.al ?_
 intro r w3 _ hS
 (repeat (refine jt ⟨?_⟩; refine hS.st rfl rfl ?_; intro _ hS)); refine jt ⟨?_⟩
 refine Cl.mono (KWrite (ops := [([97], false, [49]), ([98], false, [50])]) (cp := 2) hK (hS.part (L := L1)) (hG.part hS (L := L1)) (hS.arr (b := r) (nodup_chunk hS)) (by decide) (by decide) (by decide)) ?_
 rintro _ w4 ⟨rfl, L2, hK, hS'⟩
 have hS := (hS.call (L := L1) hS').sub (kAb _ _)
 rw [if_neg (by decide)] at hK
 rw [if_neg (by decide)]
 (repeat (refine jt ⟨?_⟩; refine hS.st rfl rfl ?_; intro _ hS)); refine jt ⟨?_⟩
 refine Cl.mono (KSnap hK hS.holds (by decide)) ?_
 rintro _ w5 ⟨rfl, L3, hK, hS'⟩
 have hS := hS.call (L := L2) hS'
 (repeat (refine jt ⟨?_⟩; refine hS.st rfl rfl ?_; intro _ hS)); refine jt ⟨?_⟩
 refine hS.al ?_
 intro r2 w6 _ hS
 (repeat (refine jt ⟨?_⟩; refine hS.st rfl rfl ?_; intro _ hS)); refine jt ⟨?_⟩
 refine Cl.mono (KWrite (ops := [([97], true, []), ([99], false, [51])]) (cp := 2) hK (hS.part (L := L3)) (hG.part hS (L := L3)) (hS.arr (b := r2) (nodup_chunk hS)) (by decide) (by decide) (by decide)) ?_
 rintro _ w7 ⟨rfl, L4, hK, hS'⟩
 have hS := (hS.call (L := L3) hS').sub (kAb _ _)
 rw [if_neg (by decide)] at hK
 rw [if_neg (by decide)]
 (repeat (refine jt ⟨?_⟩; refine hS.st rfl rfl ?_; intro _ hS)); refine jt ⟨?_⟩
 refine Cl.mono (KScan hK hS.holds [] []) ?_
 rintro _ w8 ⟨a8, c8, Lv, rfl, hv, hS'⟩
 have hS := hS.call (L := L4) hS'
 (repeat (refine jt ⟨?_⟩; refine hS.st rfl rfl ?_; intro _ hS)); refine jt ⟨?_⟩
 refine Cl.mono (KGetAt hK (hS.part (L := L4)) (0 + 1) [97] (by decide)) ?_
 rintro v w9 ⟨hvv, L5, hK, hS'⟩
 have hvv : v = .tuple ⟨[Str [49], .bool true, .int .i64 0]⟩ := hvv.trans rfl
 subst hvv
 have hS := hS.call (L := L4) hS'
 (repeat (refine jt ⟨?_⟩; refine hS.st rfl rfl ?_; intro _ hS)); refine jt ⟨?_⟩
 refine hS.al ?_
 intro r3 w10 _ hS
 (repeat (refine jt ⟨?_⟩; refine hS.st rfl rfl ?_; intro _ hS)); refine jt ⟨?_⟩
 refine Cl.mono (Same12_spec (m := [([98], false, [50]), ([99], false, [51])]) (hv.arr hS (by simp)) (hS.arr (b := r3) (T' := []) (by simp)) (by decide) (by decide)) ?_
 rintro v w11 ⟨hvv, hS'⟩
 have hvv : v = .bool true := hvv.trans (congrArg Value.bool (by decide))
 subst hvv
 have hS := hS.call0 hS'
 (repeat (refine jt ⟨?_⟩; refine hS.st rfl rfl ?_; intro _ hS)); refine jt ⟨?_⟩
 exact ⟨rfl, hS.nil⟩
def BatsAt (w : World) (a : Option Addr) (bss : List (List OpM)) : Prop := ∀ j (h : j < bss.length), ∃ g off a' c', a = some ⟨g, off, none⟩ ∧ w.cell? ⟨g, off + j, none⟩ = some (.slice a' bss[j].length c') ∧ Arr w [] a' (bss[j].flatMap opDC)
theorem BatsAt.keep {w w' : World} {H : Heap} {a : Option Addr} {bss : List (List OpM)} (h : BatsAt w a bss) (hS : St w [] H w') : BatsAt w' a bss := fun j hj => by
 obtain ⟨g, off, a', c', h1, h2, h3⟩ := h j hj
 exact ⟨g, off, a', c', h1, hS.oldCell (a := ⟨g, off + j, none⟩) (by simp) h2, hS.arrOld h3⟩
def numB' (bss : List (List OpM)) : Nat := (bss.map List.length).sum
theorem numB_take (bss : List (List OpM)) (k : Nat) (hk : k < bss.length) : numB' (bss.take (k + 1)) = numB' (bss.take k) + bss[k].length := by
 unfold numB'; rw [kAn hk, kAi, kCf]; simp
theorem numB_le (bss : List (List OpM)) (k : Nat) : numB' (bss.take k) ≤ numB' bss := by
 have : numB' bss = numB' (bss.take k) + numB' (bss.drop k) := by
  unfold numB'; rw [← kCf, ← kAi, kAu]
 omega
def putB (now : List RecM) (b : List OpM) : List RecM := if 4096 < sizeO b then now else writeL now b
def fillM (now : List RecM) (bss : List (List OpM)) : List RecM := bss.foldl putB now
theorem fillM_succ (bss : List (List OpM)) (k : Nat) (hk : k < bss.length) : fillM [] (bss.take (k + 1)) = putB (fillM [] (bss.take k)) bss[k] := by
 unfold fillM; rw [kAn hk, kCn]; rfl
set_option maxRecDepth 8000 in
set_option maxHeartbeats 8000000 in
theorem filled_spec {w : World} (hG : Glob w []) {a : Option Addr} {c : Nat} {hs : List Int} {mm fan : Int} (ha : Arr w [] a (hs.map intV)) (hhl : hs.length ≤ 1099511627776) {ab : Option Addr} {cb : Nat} {bss : List (List OpM)} (hb : BatsAt w ab bss) (hsz : ∀ b ∈ bss, sizeO b ≤ 1099511627776) (hn : numB' bss ≤ 262144) (hc : bss.length ≤ 1048575) :
  Cl Tryz.prog f_tarmaclaw12_filled [.agg ⟨[.int .i64 mm, .int .i64 fan, .slice a hs.length c]⟩, .slice ab bss.length cb] w fun v w' => ∃ sb f L', v = ptr sb ∧ Sto sb f (1 + bss.length) (numB' bss) 0 (fillM [] bss) noLk L' ∧ St w [] L' w' := by
 have hS := St.start w
 refine en_tarmaclaw12_filled rfl ?_
 (repeat (refine jt ⟨?_⟩; refine hS.st rfl rfl ?_; intro _ hS)); refine jt ⟨?_⟩
 refine hS.al ?_
 intro b2 w1 _ hS
 (repeat (refine jt ⟨?_⟩; refine hS.st rfl rfl ?_; intro _ hS)); refine jt ⟨?_⟩
 have hcell : ∀ w' H, St w [] (H ++ [(b2, .cells ⟨[.int .i64 mm, .int .i64 fan, .slice a hs.length c]⟩ T_api_Setting (0, 0))]) w' → ∀ (j : Nat) (v : Value), ([.int .i64 mm, .int .i64 fan, .slice a hs.length c] : List Value)[j]? = some v → w'.cell? ⟨b2, 0 + j, none⟩ = some v := by
  intro w' H hS j v hj
  rw [kBl]
  exact hS.cell (b := b2) (off := j) hj
 refine SemW.draw tblOk mixed (fun w' => ∀ (j : Nat) (v : Value), ([.int .i64 mm, .int .i64 fan, .slice a hs.length c] : List Value)[j]? = some v → w'.cell? ⟨b2, 0 + j, none⟩ = some v) [2, 3, 4, 5, 6, 7] [1, 0, 2, 3, 4, 5, 6, 7] (by kernel_rfl) (hcell _ [] hS.drew) ?_
 have hS := hS.drew
 refine jr ⟨?_⟩
 refine ldnAll (l := [.int .i64 mm, .int .i64 fan, .slice a hs.length c]) (fun w' h => h) rfl ?_
 refine jr ⟨?_⟩
 refine Cl.mono New_spec ?_
 rintro _ w2 ⟨f, L0, rfl, -, hF, hS'⟩
 have hS := hS.callNew hS'
 refine Chk.mk (hcell _ L0 hS) ?_
 refine jr ⟨?_⟩
 refine Cl.mono (KOpen (hs := hs) (mm := mm) (fan := fan) (c := c) (a := a) hF (hS.part (L := L0)) (hG.part hS (L := L0)) (ha.stay hS (L := L0)) hhl) ?_
 rintro _ w3 ⟨sb, L1, rfl, hK, hS'⟩
 have hS := hS.call (L := L0) hS'
 refine jr ⟨?_⟩
 (repeat (refine jt ⟨?_⟩; refine hS.st rfl rfl ?_; intro _ hS)); refine jt ⟨?_⟩
 have hS := hS.sub (kBk L1 _)
 refine SemW.loop (fun k : Nat => [(5, ptr sb), (21, .slice ab bss.length cb), (22, .int .i64 bss.length), (23, .int .i64 k)])
  (fun k w' => k ≤ bss.length ∧ ∃ L', Sto sb f (1 + k) (numB' (bss.take k)) 0 (fillM [] (bss.take k)) noLk L' ∧ St w [] L' w') (fun k => bss.length - k) 0
  ⟨rfl, rfl, rfl, rfl, trivial⟩ ⟨kAg _, L1, hK, hS⟩ ?_
 clear hS hK hF
 rintro k w4 ⟨hk, L1, hK, hS⟩
 by_cases hkl : k < bss.length
 ·obtain ⟨g, off, a', c', rfl, hcl, harr⟩ := hb k hkl
  have hsucc := fillM_succ bss k hkl
  have hns := numB_take bss k hkl
  have hnl := numB_le bss (k + 1)
  have hz := hsz _ (kAx hkl)
  have hcnt := sizeO_cnt bss[k]
  have hcl2 := hS.oldCell (a := ⟨g, off + k, none⟩) (by simp) hcl
  generalize bss[k] = b at hcl2 harr hsucc hns hz hcnt
  clear hcl
  (repeat (refine jt ⟨?_⟩; refine hS.st rfl rfl ?_; intro _ hS)); refine jt ⟨?_⟩
  refine ldAt (by rw [show off + (k : Int).toNat * 1 = off + k by omega]; exact hcl2) ?_
  (repeat (refine jt ⟨?_⟩; refine hS.st rfl rfl ?_; intro _ hS)); refine jt ⟨?_⟩
  refine Cl.mono (Long12_spec ((hS.arrOld harr).sub (by simp)) hz (by omega)) ?_
  rintro _ w5 ⟨rfl, hS'⟩
  have hS := hS.call0 hS'
  by_cases hl : 4096 < sizeO b
  ·have hp : putB (fillM [] (bss.take k)) b = fillM [] (bss.take k) := if_pos hl
   rw [hp] at hsucc
   (repeat (refine jt ⟨?_⟩; refine hS.st rfl rfl ?_; intro _ hS)); refine jt ⟨?_⟩
   exact ⟨k + 1, ⟨rfl, rfl, rfl, rfl, trivial⟩, ⟨by omega, L1, by rw [hsucc, hns]; exact hK.more (by omega) (by omega) (by omega) (by omega), hS⟩, by omega⟩
  ·have hp : putB (fillM [] (bss.take k)) b = writeL (fillM [] (bss.take k)) b := if_neg hl
   (repeat (refine jt ⟨?_⟩; refine hS.st rfl rfl ?_; intro _ hS)); refine jt ⟨?_⟩
   refine Cl.mono (KWrite (ops := b) (cp := c') hK hS.holds (hG.part hS (L := L1)) (harr.stay hS (L := L1)) hz (by omega) (by omega)) ?_
   rintro _ w6 ⟨rfl, L2, hK2, hS'⟩
   have hS := hS.call (L := L1) hS'
   rw [if_neg hl] at hK2
   rw [if_neg hl]
   rw [← hp, ← hsucc, ← hns] at hK2
   (repeat (refine jt ⟨?_⟩; refine hS.st rfl rfl ?_; intro _ hS)); refine jt ⟨?_⟩
   exact ⟨k + 1, ⟨rfl, rfl, rfl, rfl, trivial⟩, ⟨by omega, L2, hK2, hS⟩, by omega⟩
 ·obtain rfl : k = bss.length := by omega
  rw [kAr] at hK
  (repeat (refine jt ⟨?_⟩; refine hS.st rfl rfl ?_; intro _ hS)); refine jt ⟨?_⟩
  exact ⟨sb, f, L1, rfl, hK, hS⟩
theorem RSl.arrO {β : Type} {sz : Nat} {R : CellR β} {W : World} {a : Option Addr} {n cap : Nat} {xs : List β} {cv : β → List Value} (h : RSl sz R W [.slice a n cap] xs) (hR : ∀ cs x, R W cs x → cs = cv x) (hc : ∀ x, (cv x).length = sz) (h0 : 0 < sz) : Arr W [] a (xs.flatMap cv) := by
 intro j v hj
 have hjl : j < xs.length * sz := by
  have := (kBt.1 hj).1
  rwa [flat_lenE hc] at this
 have hi : j / sz < xs.length := Nat.div_lt_of_lt_mul (by rw [kCk]; exact hjl)
 obtain ⟨b, off, cs, h1, h2, h3, h4⟩ := h.at hi
 have hcs := hR _ _ h4
 have hat := flat_atE hc xs [] (j / sz) hi
 rw [kAk, ← hcs] at hat
 refine ⟨b, off, h1, by simp, ?_⟩
 have hr : j % sz < sz := kBn _ h0
 have hdm : j / sz * sz + j % sz = j := by rw [kCk]; exact Nat.div_add_mod j sz
 have hv : cs[j % sz]? = some v := by
  rw [← hat, kCw, if_pos hr, kCv, hdm]; exact hj
 have := h3 _ _ hv
 rw [hdm] at this
 exact this
theorem RSl.intsO {W : World} {a : Option Addr} {n cap : Nat} {xs : List Int} (h : RSl 1 (RInt .i64) W [.slice a n cap] xs) : Arr W [] a (xs.map intV) := by
 have := h.arrO (cv := fun z => [intV z]) (fun cs x hx => hx.1) (fun _ => rfl) (by decide)
 have e : ∀ l : List Int, l.flatMap (fun z => [intV z]) = l.map intV := fun l => by induction l <;> simp_all
 rwa [e] at this
def ROp : CellR OpM := fun _ cs o => cs = opDC o
structure ScM where
 kind : Int
 n : Int
 key : Bytes
 to : Bytes
 ops : List OpM
 fates : List (Int × Int)
 keep : List Int
def RSc : CellR ScM := fun W cs x => ∃ vo vf vk, cs = [.int .i64 x.kind, .int .i64 x.n, Str x.key, Str x.to, vo, vf, vk] ∧ RSl 3 ROp W [vo] x.ops ∧ RSl 2 (RPair 1 (RInt .i64) (RInt .i64)) W [vf] x.fates ∧ RSl 1 (RInt .i64) W [vk] x.keep ∧ i64b x.n
def fateC (x : Int × Int) : List Value := [intV x.1, intV x.2]
theorem fatesO {W : World} {a : Option Addr} {n cap : Nat} {xs : List (Int × Int)} (h : RSl 2 (RPair 1 (RInt .i64) (RInt .i64)) W [.slice a n cap] xs) : Arr W [] a (xs.flatMap fateC) := by
 refine h.arrO (cv := fateC) (fun cs x hx => ?_) (fun _ => rfl) (by decide)
 obtain ⟨e1, -, h2⟩ := pair_int hx
 have h2 : cs.drop 1 = [.int .i64 x.2] := h2.1
 rw [e1, h2]; rfl
theorem scAt {w0 w : World} {H : Heap} (hS : St w0 [] H w) {a : Option Addr} {n cap : Nat} {scr : List ScM} (h : RSl 7 RSc w0 [.slice a n cap] scr) {k : Nat} (hk : k < scr.length) :
  ∃ b off ao co af cf ak ck, a = some ⟨b, off, none⟩ ∧ (∀ K : List Value → Prop, K [.int .i64 scr[k].kind, .int .i64 scr[k].n, Str scr[k].key, Str scr[k].to, .slice ao scr[k].ops.length co, .slice af scr[k].fates.length cf, .slice ak scr[k].keep.length ck] → LdN (fun w' => w = w') 7 b (off + k * 7) K) ∧
   Arr w0 [] ao (scr[k].ops.flatMap opDC) ∧ Arr w0 [] af (scr[k].fates.flatMap fateC) ∧ Arr w0 [] ak (scr[k].keep.map intV) ∧ i64b scr[k].n := by
 obtain ⟨b, off, cs, h1, ⟨vo, vf, vk, rfl, h2, h3, h4, h5⟩, h6⟩ := h.ldn hS hk
 obtain ⟨ao, co, rfl, -, -, h2⟩ := h2.inv
 obtain ⟨af, cf, rfl, -, -, h3⟩ := h3.inv
 obtain ⟨ak, ck, rfl, -, -, h4⟩ := h4.inv
 exact ⟨b, off, ao, co, af, cf, ak, ck, h1, h6, h2.arrO (cv := opDC) (fun _ _ h => h) (fun _ => rfl) (by decide), fatesO h3, h4.intsO, h5⟩
def cntS (scr : List ScM) : Nat := (scr.map fun x => x.ops.length).sum
theorem cntS_take (scr : List ScM) (k : Nat) (hk : k < scr.length) : cntS (scr.take (k + 1)) = cntS (scr.take k) + scr[k].ops.length := by
 unfold cntS; rw [kAn hk, kAi, kCf]; simp
theorem cntS_le (scr : List ScM) (k : Nat) : cntS (scr.take k) ≤ cntS scr := by
 have : cntS scr = cntS (scr.take k) + cntS (scr.drop k) := by
  unfold cntS; rw [← kCf, ← kAi, kAu]
 omega
end Go.Proofs.YtkgibdhpijdbfaaGreatDoor
namespace Go.Proofs.YtkgibdhpijdbfaaGreatDoor
open Go Go.Eng Go.Proofs Go.RowKit
theorem errStar : "*" ++ "errors.errorString" = "*errors.errorString" := by decide
theorem errRow (u : TypeId) (h : Tryz.prog.typeName? 3 u = some "*errors.errorString") : u = 347 :=
 typeName_ptr_named (nm := "errors.errorString") (by rw [errStar]; kernel_rfl) (by kernel_rfl) (by decide) u (by rw [errStar]; exact h)
theorem errVars_of {r : List (String × DataW Unit)} {W : World} (h : laidMet Tryz.prog (("strconv.ErrRange", Rows.laid_strconv_ErrRange) :: ("strconv.ErrSyntax", Rows.laid_strconv_ErrSyntax) :: r) W) : ErrVars W := by
 obtain ⟨f, hf, hft, hfo⟩ : ∃ f : Field, Tryz.prog.underlying 349 = some (.struct #[f]) ∧ f.type = 9 ∧ f.offset = 0 := ⟨⟨"s", 9, 0, false, "", "errors", 0⟩, by kernel_rfl, rfl, rfl⟩
 have hi : Tryz.prog.underlying 194 = some (.interface (Tryz.prog.methodsAt 194)) := by kernel_rfl
 have g1 : Tryz.prog.globalNamed "strconv.ErrRange" = some errG1 := by kernel_rfl
 have g0 : Tryz.prog.globalNamed "strconv.ErrSyntax" = some errG0 := by kernel_rfl
 obtain ⟨a1, s1, hv1, -, -, -⟩ := laid_sentinel h g1 (ti := 194) (by kernel_rfl) hi errRow (te := 349) (by kernel_rfl) hf hft hfo (by kernel_rfl) (by kernel_rfl) (by kernel_rfl)
 obtain ⟨a0, s0, hv0, -, -, -⟩ := laid_sentinel h.tail g0 (ti := 194) (by kernel_rfl) hi errRow (te := 349) (by kernel_rfl) hf hft hfo (by kernel_rfl) (by kernel_rfl) (by kernel_rfl)
 exact ⟨⟨_, _, by have h0 := World.var?_cell g0 hv0 0; simpa using h0⟩, ⟨_, _, by have h0 := World.var?_cell g1 hv1 0; simpa using h0⟩⟩
theorem tabW_of {r : List (String × DataW Unit)} {W : World} (h : laidMet Tryz.prog (("internal/strconv.uint64pow10", Rows.laid_internal_strconv_uint64pow10) :: r) W) : TabW W := by
 have h : laidMet Tryz.prog (("internal/strconv.uint64pow10", Lib.tabData .u64 Lib.pow10Tab) :: r) W := h
 exact Lib.tabIs_of_head (g := 3) (t := 352) (e := 159) (n := 20) (by kernel_rfl) (by kernel_rfl) (by kernel_rfl) (by kernel_rfl) (by kernel_rfl) (by kernel_rfl) h
end Go.Proofs.YtkgibdhpijdbfaaGreatDoor
namespace Go.Proofs.YtkgibdhpijdbfaaGreatDoor
open Go Go.Eng Go.Proofs Go.Srt
open Go.ChangeShapes Go.WideShapes Go.ChangeAt Go.RowKit
def obk (o : OpM) : Nat := o.1.length + o.2.2.length + 4
theorem opens_op : Opens Tryz.prog T_api_Op ROp obk := by
 refine Opens.map (Opens.struct (sz := 3) Tryz.underlying30 (by kernel_rfl) (OpensFs.cons (s := 1) rfl (by kernel_rfl) (Opens.str Tryz.underlying9) (OpensFs.cons (s := 1) rfl (by kernel_rfl) (Opens.bool Tryz.underlying4) (OpensFs.cons (s := 1) rfl (by kernel_rfl) (Opens.str Tryz.underlying9) OpensFs.nil))))
  (fun x => (x.1, x.2.1, x.2.2.1)) ?_ (fun x => by unfold obk; (try simp only); omega)
 intro W cs x h
 obtain ⟨e1, h⟩ := pair_str h
 obtain ⟨e2, h⟩ := pair_bool h
 obtain ⟨e3, h⟩ := pair_str h
 have h : (((cs.drop 1).drop 1).drop 1) = [] := h
 rw [h] at e3; rw [e3] at e2; rw [e2] at e1
 exact e1
def bbk (b : List OpM) : Nat := (b.map obk).sum + 1
theorem opens_ops : Opens Tryz.prog T_Sl_api_Op (RSl 3 ROp) bbk :=
 Opens.slice Tryz.underlying27 (show Tryz.prog.cellsOf T_api_Op = 3 by kernel_rfl) (by decide) opens_op
theorem opens_bats : Opens Tryz.prog T_Sl_Sl_api_Op (RSl 1 (RSl 3 ROp)) (fun xs => (xs.map bbk).sum + 1) :=
 Opens.slice Tryz.underlying25 (show Tryz.prog.cellsOf T_Sl_api_Op = 1 by kernel_rfl) (by decide) opens_ops
theorem bats_of {W : World} {a : Option Addr} {n c : Nat} {bss : List (List OpM)} (h : RSl 1 (RSl 3 ROp) W [.slice a n c] bss) : BatsAt W a bss := by
 intro j hj
 obtain ⟨g, off, v, h1, h2, h3⟩ := h.get hj
 obtain ⟨a', c', rfl, -, -, h4⟩ := h3.inv
 exact ⟨g, off, a', c', h1, h2, h4.arrO (cv := opDC) (fun _ _ h => h) (fun _ => rfl) (by decide)⟩
theorem obk_sum : ∀ (b : List OpM), 4 * b.length ≤ (b.map obk).sum ∧ sizeO b ≤ 4 * (b.map obk).sum
 |[] => ⟨kAd _, kAd _⟩
 |o :: b => by
  obtain ⟨h1, h2⟩ := obk_sum b
  have e1 : ((o :: b).map obk).sum = obk o + (b.map obk).sum := by simp
  have e2 : sizeO (o :: b) = szO o + sizeO b := by unfold sizeO; simp
  have e3 : szO o ≤ 4 * obk o ∧ 4 ≤ obk o := by unfold szO obk; omega
  rw [kAe]
  omega
theorem bbk_sum : ∀ (bss : List (List OpM)), bss.length ≤ (bss.map bbk).sum ∧ 4 * numB' bss ≤ (bss.map bbk).sum ∧ ∀ b ∈ bss, sizeO b ≤ 4 * (bss.map bbk).sum
 |[] => ⟨kAd _, kAd _, by nofun⟩
 |b :: bss => by
  obtain ⟨h1, h2, h3⟩ := bbk_sum bss
  obtain ⟨h4, h5⟩ := obk_sum b
  have e1 : ((b :: bss).map bbk).sum = bbk b + (bss.map bbk).sum := by simp
  have e2 : numB' (b :: bss) = b.length + numB' bss := by unfold numB'; simp
  have e3 : bbk b = (b.map obk).sum + 1 := rfl
  rw [kAe]
  refine ⟨by omega, by omega, fun x hx => ?_⟩
  rcases kAf.1 hx with rfl | hx
  ·omega
  ·have := h3 x hx; omega
def RSet : CellR (Int × Int × List Int) := fun W cs s => ∃ v, cs = [.int .i64 s.1, .int .i64 s.2.1, v] ∧ RSl 1 (RInt .i64) W [v] s.2.2
theorem opens_set : Opens Tryz.prog T_api_Setting RSet (fun s => s.2.2.length + 4) := by
 have hs : ∀ l : List Int, (l.map fun _ => 1).sum = l.length := fun l => by
  induction l with
  |nil => rfl
  |cons a l ih => rw [kAh, kCj, ih, kAe, Nat.add_comm]
 refine Opens.map (Opens.struct (sz := 3) Tryz.underlying24 (by kernel_rfl) (OpensFs.cons (s := 1) rfl (by kernel_rfl) (Opens.int Tryz.underlying3) (OpensFs.cons (s := 1) rfl (by kernel_rfl) (Opens.int Tryz.underlying3) (OpensFs.cons (s := 1) rfl (by kernel_rfl) (Opens.slice Tryz.underlying22 (show Tryz.prog.cellsOf T_int = 1 by kernel_rfl) (by decide) (Opens.int Tryz.underlying3)) OpensFs.nil))))
  (fun x => (x.1, x.2.1, x.2.2.1)) ?_ (fun x => by (try simp only [hs]); omega)
 intro W cs x h
 obtain ⟨e1, -, h⟩ := pair_int h
 obtain ⟨e2, -, h⟩ := pair_int h
 obtain ⟨v, e3, h3, h⟩ := pair_sl h
 have h : (((cs.drop 1).drop 1).drop 1) = [] := h
 rw [h] at e3; rw [e3] at e2; rw [e2] at e1
 exact ⟨v, e1, h3⟩
theorem open_set {H : Type} {enc : TypeId × Value → H} {W : World} {v : Value} {d : DataW H} {p : List MemPlace} (hd : DataW.Trod enc Tryz.prog W 0 (fun _ => true) true T_api_Setting v d p) :
  ∃ (mm fan : Int) (hs : List Int) (a : Option Addr) (c : Nat), v = .agg ⟨[.int .i64 mm, .int .i64 fan, .slice a hs.length c]⟩ ∧ Arr W [] a (hs.map intV) ∧ hs.length + 4 ≤ Rows.uptoBulk d := by
 obtain ⟨⟨mm, fan, hs⟩, ⟨u, hcs, h1⟩, hb⟩ := Trod.out hd opens_set
 obtain ⟨a, c, rfl, -, -, h2⟩ := h1.inv
 refine ⟨mm, fan, hs, a, c, ?_, h2.intsO, hb⟩
 cases v with
 |agg cs => cases cs; simp only [Value.cells] at hcs; rw [hcs]
 |_ => simp [Value.cells] at hcs
theorem glob_of {W : World} (h1 : TabW W) (h2 : ErrVars W) : Glob W [] := ⟨h2, h1, by simp, by simp, by simp⟩
end Go.Proofs.YtkgibdhpijdbfaaGreatDoor
