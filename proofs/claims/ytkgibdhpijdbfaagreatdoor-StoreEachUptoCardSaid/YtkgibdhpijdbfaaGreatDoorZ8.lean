/- Texts of this claim, one behind the other. -/
import Derived.Test.YtkgibdhpijdbfaaGreatDoorZ7
set_option linter.unusedVariables false
set_option linter.unusedSimpArgs false
namespace Go.Proofs.YtkgibdhpijdbfaaGreatDoor
open Go Go.Eng Go.Proofs Go.Srt
inductive OneO : List Value → List OpM → Heap → Prop where
 |nil : OneO [] [] []
 |snoc {vs : List Value} {os : List OpM} {L : Heap} (h : OneO vs os L) (r : Nat) (o : OpM) : OneO (vs ++ [.slice (some ⟨r, 0, none⟩) 1 1]) (os ++ [o]) ((r, .cells ⟨opDC o⟩ T_api_Op (0, 0)) :: L)
theorem OneO.at {vs : List Value} {os : List OpM} {L : Heap} (h : OneO vs os L) {w : World} (hh : Holds L w) : vs.length = os.length ∧ ∀ j (hj : j < os.length), ∃ a, vs[j]? = some (.slice a 1 1) ∧ Arr w [] a ([os[j]].flatMap opDC) := by
 induction h with
 |nil => exact ⟨rfl, fun j hj => absurd hj (Nat.not_lt_zero j)⟩
 |@snoc vs os L h r o ih =>
  have hS := St.enter hh
  obtain ⟨h1, h2⟩ := ih (hS.sub (kAb _ _)).holds
  refine ⟨by simp [h1], fun j hj => ?_⟩
  by_cases hjl : j < os.length
  ·obtain ⟨a, h3, h4⟩ := h2 j hjl
   refine ⟨a, by rw [kAz (by omega)]; exact h3, ?_⟩
   rw [List.getElem_append_left hjl]; exact h4
  ·have hje : j = os.length := by simp at hj; omega
   subst hje
   refine ⟨some ⟨r, 0, none⟩, by rw [kBh (by omega), h1]; simp, ?_⟩
   have := hS.arr (b := r) (T' := []) (by simp)
   rw [List.getElem_append_right (kAd _)]
   simpa using this
theorem OneO.bats {vs : List Value} {os : List OpM} {L : Heap} (h : OneO vs os L) {w : World} (hh : Holds L w) {a : Option Addr} (ha : Arr w [] a vs) : BatsAt w a (os.map fun o => [o]) := by
 obtain ⟨h1, h2⟩ := h.at hh
 intro j hj
 rw [kAv] at hj
 obtain ⟨a', h3, h4⟩ := h2 j hj
 obtain ⟨g, off, h5, -, h6⟩ := ha j _ h3
 refine ⟨g, off, a', 1, h5, ?_, ?_⟩
 ·rw [h6]; simp
 ·simpa using h4
def eachM (bss : List (List OpM)) : List OpM := (bss.filter fun b => !decide (4096 < sizeO b)).flatten
theorem eachM_succ (bss : List (List OpM)) (k : Nat) (hk : k < bss.length) : eachM (bss.take (k + 1)) = eachM (bss.take k) ++ if 4096 < sizeO bss[k] then [] else bss[k] := by
 unfold eachM
 rw [filter_take _ _ _ hk, kBy]
 by_cases h : 4096 < sizeO bss[k] <;> simp [h]
theorem eachM_len (bss : List (List OpM)) : (eachM bss).length ≤ numB' bss := by
 unfold eachM numB'
 induction bss with
 |nil => simp
 |cons b bss ih =>
  rw [List.filter_cons, kAh, kCj]
  split
  ·rw [kBi, kAa]; omega
  ·omega
theorem fill_each : ∀ (bss : List (List OpM)) (now : List RecM), fillM now bss = writeL now (eachM bss)
 |[], now => rfl
 |b :: bss, now => by
  have e : fillM now (b :: bss) = fillM (putB now b) bss := rfl
  rw [e, fill_each bss]
  unfold putB eachM
  rw [List.filter_cons]
  by_cases h : 4096 < sizeO b
  ·rw [if_pos h, if_neg (by simp [h])]
  ·rw [if_neg h, if_pos (by simp [h]), kBi]
   unfold writeL
   rw [kCn]
theorem fill_one : ∀ (os : List OpM) (now : List RecM), (∀ o ∈ os, szO o ≤ 4096) → fillM now (os.map fun o => [o]) = writeL now os
 |[], now, _ => rfl
 |o :: os, now, h => by
  have e : fillM now ((o :: os).map fun o => [o]) = fillM (putB now [o]) (os.map fun o => [o]) := rfl
  have ho := h o (by simp)
  have e2 : putB now [o] = putL now o := by
   unfold putB
   rw [if_neg (by unfold sizeO; simp; omega)]; rfl
  rw [e, e2, fill_one os _ fun p hp => h p (by simp [hp])]
  rfl
theorem eachM_sz {bss : List (List OpM)} : ∀ o ∈ eachM bss, szO o ≤ 4096 := by
 intro o ho
 obtain ⟨b, hb, hob⟩ := kCx.1 ho
 have h1 := (List.mem_filter.1 hb).2
 simp at h1
 have := szO_le hob
 omega
theorem numB_one (os : List OpM) : numB' (os.map fun o => [o]) = os.length := by
 unfold numB'
 induction os with
 |nil => rfl
 |cons o os ih => simp only [kAh, kCj, kAe, kAq] at ih ⊢; omega
theorem Sto.len {sb f c e : Nat} {gv : Int} {now : List RecM} {lk : Looks} {L : Heap} (h : Sto sb f c e gv now lk L) : now.length ≤ 262144 := by
 obtain ⟨s, m, -, hI, -⟩ := h
 exact kBb hI.core.nlen hI.e1
structure EI12 where
 k : Nat
 n : Nat
 a : Option Addr
 c : Nat
theorem eachR {w0 w : World} {T : List Nat} {p q : Nat × Obj} {A B C : Heap} (h : St w0 T (p :: q :: (A ++ (B ++ C))) w) : St w0 T (p :: (A ++ ((q :: B) ++ C))) w := by
 refine St.perm h (List.Perm.cons _ ?_)
 rw [kBe]
 exact kBg.symm
set_option maxRecDepth 8000 in
set_option maxHeartbeats 8000000 in
theorem Each_spec {w : World} (hG : Glob w []) {a : Option Addr} {c : Nat} {hs : List Int} {mm fan : Int} (ha : Arr w [] a (hs.map intV)) (hhl : hs.length ≤ 1099511627776) {ab : Option Addr} {cb : Nat} {bss : List (List OpM)} (hb : BatsAt w ab bss) (hsz : ∀ b ∈ bss, sizeO b ≤ 1099511627776) (hn : numB' bss ≤ 262144) (hc : bss.length ≤ 1048575) :
  Cl Tryz.prog f_tarmaclaw12_StoreEach [.agg ⟨[.int .i64 mm, .int .i64 fan, .slice a hs.length c]⟩, .slice ab bss.length cb] w fun v w' => v = .bool true ∧ St w [] [] w' := by
 have hS := St.start w
 refine en_tarmaclaw12_StoreEach rfl ?_
 (repeat (refine jt ⟨?_⟩; refine hS.st rfl rfl ?_; intro _ hS)); refine jt ⟨?_⟩
 refine hS.al ?_
 intro b2 w1 _ hS
 (repeat (refine jt ⟨?_⟩; refine hS.st rfl rfl ?_; intro _ hS)); refine jt ⟨?_⟩
 refine Cl.mono (lives_spec (hG.part hS (L := []))) ?_
 rintro _ w2 ⟨rfl, hS'⟩
 have hS := hS.call0 hS'
 (repeat (refine jt ⟨?_⟩; refine hS.st rfl rfl ?_; intro _ hS)); refine jt ⟨?_⟩
 refine SemW.loop (fun i : EI12 => [(2, ptr b2), (1, .slice ab bss.length cb), (5, .slice i.a i.n i.c), (18, .slice ab bss.length cb), (19, .int .i64 bss.length), (20, .int .i64 i.k)])
  (fun i w' => i.k ≤ bss.length ∧ i.n = (eachM (bss.take i.k)).length ∧ ∃ vs L Lo, Vec T_Sl_api_Op 1 i.a i.n i.c vs L ∧ OneO vs (eachM (bss.take i.k)) Lo ∧ St w [] (L ++ (Lo ++ [(b2, .cells ⟨[.int .i64 mm, .int .i64 fan, .slice a hs.length c]⟩ T_api_Setting (0, 0))])) w') (fun i => bss.length - i.k) ⟨0, 0, none, 0⟩
  ⟨rfl, rfl, rfl, rfl, rfl, rfl, trivial⟩ ⟨kAg _, rfl, [], [], [], Vec.nil, .nil, hS⟩ ?_
 clear hS hS'
 rintro ⟨k, n, a5, c5⟩ w3 ⟨hk, hnl, vs, L5, Lo, hv, hO, hS⟩
 simp only at hk hnl hv hO hS ⊢
 by_cases hkl : k < bss.length
 ·obtain ⟨g, off, a', c', rfl, hcl, harr⟩ := hb k hkl
  have hsucc := eachM_succ bss k hkl
  have hel := eachM_len (bss.take (k + 1))
  have hnl2 := numB_le bss (k + 1)
  have hz := hsz _ (kAx hkl)
  have hcnt := sizeO_cnt bss[k]
  have hcl2 := hS.oldCell (a := ⟨g, off + k, none⟩) (by simp) hcl
  generalize bss[k] = b at hcl2 harr hsucc hz hcnt
  clear hcl
  (repeat (refine jt ⟨?_⟩; refine hS.st rfl rfl ?_; intro _ hS)); refine jt ⟨?_⟩
  refine ldAt (by rw [show off + (k : Int).toNat * 1 = off + k by omega]; exact hcl2) ?_
  (repeat (refine jt ⟨?_⟩; refine hS.st rfl rfl ?_; intro _ hS)); refine jt ⟨?_⟩
  refine Cl.mono (Long12_spec ((hS.arrOld harr).sub (by simp)) hz (by omega)) ?_
  rintro _ w5 ⟨rfl, hS'⟩
  have hS := hS.call0 hS'
  by_cases hl : 4096 < sizeO b
  ·rw [if_pos hl, kAk] at hsucc
   (repeat (refine jt ⟨?_⟩; refine hS.st rfl rfl ?_; intro _ hS)); refine jt ⟨?_⟩
   exact ⟨⟨k + 1, n, a5, c5⟩, ⟨rfl, rfl, rfl, rfl, rfl, rfl, trivial⟩, ⟨by simp only; omega, by simp only; rw [hsucc]; exact hnl, vs, L5, Lo, hv, by simp only; rw [hsucc]; exact hO, hS⟩, by simp only; omega⟩
  ·rw [if_neg hl] at hsucc
   (repeat (refine jt ⟨?_⟩; refine hS.st rfl rfl ?_; intro _ hS)); refine jt ⟨?_⟩
   refine SemW.loop (fun i : EI12 => [(2, ptr b2), (1, .slice (some ⟨g, off, none⟩) bss.length cb), (5, .slice i.a i.n i.c), (18, .slice (some ⟨g, off, none⟩) bss.length cb), (19, .int .i64 bss.length), (20, .int .i64 k), (26, .slice a' b.length c'), (27, .int .i64 b.length), (28, .int .i64 i.k)])
    (fun i w' => i.k ≤ b.length ∧ i.n = (eachM (bss.take k) ++ b.take i.k).length ∧ ∃ vs L Lo, Vec T_Sl_api_Op 1 i.a i.n i.c vs L ∧ OneO vs (eachM (bss.take k) ++ b.take i.k) Lo ∧ St w [] (L ++ (Lo ++ [(b2, .cells ⟨[.int .i64 mm, .int .i64 fan, .slice a hs.length c]⟩ T_api_Setting (0, 0))])) w') (fun i => b.length - i.k) ⟨0, n, a5, c5⟩
    ⟨rfl, rfl, rfl, rfl, rfl, rfl, rfl, rfl, rfl, trivial⟩ ⟨kAg _, by simpa using hnl, vs, L5, Lo, hv, by simpa using hO, hS⟩ ?_
   clear hS hS' hv hO hnl
   rintro ⟨j, n, a5, c5⟩ w6 ⟨hj, hnl, vs, L5, Lo, hv, hO, hS⟩
   simp only at hj hnl hv hO hS ⊢
   have hlen := congrArg List.length hsucc
   rw [kAa] at hlen
   rw [kAa, kAo] at hnl
   by_cases hjl : j < b.length
   ·obtain ⟨g2, off2, rfl, -, -⟩ := harr.get (j := j * 3) (by rw [opsC_len]; omega)
    have hat := opsC_at b j hjl
    have hsj : b.take (j + 1) = b.take j ++ [b[j]] := kAn hjl
    generalize b[j] = o at hat hsj
    (repeat (refine jt ⟨?_⟩; refine hS.st rfl rfl ?_; intro _ hS)); refine jt ⟨?_⟩
    refine Arr.ldn (St.start w6) (hS.arrOld harr) rfl (k := j * 3) hat rfl ?_
    unfold opDC
    (repeat (refine jt ⟨?_⟩; refine hS.st rfl rfl ?_; intro _ hS)); refine jt ⟨?_⟩
    refine hS.al ?_
    intro b9 w7 _ hS
    (repeat (refine jt ⟨?_⟩; refine hS.st rfl rfl ?_; intro _ hS)); refine jt ⟨?_⟩
    refine hS.al ?_
    intro r w8 _ hS
    (repeat (refine jt ⟨?_⟩; refine hS.st rfl rfl ?_; intro _ hS)); refine jt ⟨?_⟩
    refine hS.al ?_
    intro r2 w9 _ hS
    (repeat (refine jt ⟨?_⟩; refine hS.st rfl rfl ?_; intro _ hS)); refine jt ⟨?_⟩
    refine St.app (sz := 1) (m := 1) tblOk rfl rfl rfl rfl hS hv (news := [.slice (some ⟨r, 0, none⟩) 1 1]) rfl (by have := hS.arr (b := r2) (T' := []) (by simp); exact this) rfl (by show (_ + _) * 24 ≤ _; omega) (by omega) ?_
    intro a6 c6 L6 w10 hv6 hS
    have hS := eachR (hS.sub (.cons_cons _ (.cons_cons _ (kAb _ _))))
    have hO2 : OneO (vs ++ [.slice (some ⟨r, 0, none⟩) 1 1]) (eachM (bss.take k) ++ b.take (j + 1)) ((r, .cells ⟨opDC o⟩ T_api_Op (0, 0)) :: Lo) := by rw [hsj, ← kAc]; exact OneO.snoc hO r o
    (repeat (refine jt ⟨?_⟩; refine hS.st rfl rfl ?_; intro _ hS)); refine jt ⟨?_⟩
    exact ⟨⟨j + 1, n + 1, a6, c6⟩, ⟨rfl, rfl, rfl, rfl, rfl, rfl, rfl, rfl, rfl, trivial⟩, ⟨by simp only; omega, by simp only; rw [kAa, kAo]; omega, _, L6, _, hv6, hO2, hS.sub (kAb _ _)⟩, by simp only; omega⟩
   ·obtain rfl : j = b.length := by omega
    rw [kAr] at hO
    rw [← hsucc] at hO
    (repeat (refine jt ⟨?_⟩; refine hS.st rfl rfl ?_; intro _ hS)); refine jt ⟨?_⟩
    refine ⟨⟨k + 1, n, a5, c5⟩, ⟨rfl, rfl, rfl, rfl, rfl, rfl, trivial⟩, ⟨by simp only; omega, by simp only; omega, vs, L5, Lo, hv, hO, hS⟩, by simp only; omega⟩
 ·obtain rfl : k = bss.length := by omega
  rw [kAr] at hO hnl
  have hel := eachM_len bss
  have hcell : ∀ w' H, St w [] (H ++ (L5 ++ (Lo ++ [(b2, .cells ⟨[.int .i64 mm, .int .i64 fan, .slice a hs.length c]⟩ T_api_Setting (0, 0))]))) w' → ∀ (j : Nat) (v : Value), ([.int .i64 mm, .int .i64 fan, .slice a hs.length c] : List Value)[j]? = some v → w'.cell? ⟨b2, 0 + j, none⟩ = some v := by
   intro w' H hS j v hj
   rw [kBl]
   exact hS.cell (b := b2) (off := j) hj
  (repeat (refine jt ⟨?_⟩; refine hS.st rfl rfl ?_; intro _ hS)); refine jt ⟨?_⟩
  refine SemW.draw tblOk mixed (fun w' => ∀ (j : Nat) (v : Value), ([.int .i64 mm, .int .i64 fan, .slice a hs.length c] : List Value)[j]? = some v → w'.cell? ⟨b2, 0 + j, none⟩ = some v) [5, 6, 7] [0, 1, 3, 4, 2, 5, 6, 7] (by kernel_rfl) (hcell _ [] hS.drew) ?_
  have hS := hS.drew
  refine jr ⟨?_⟩
  refine ldnAll (l := [.int .i64 mm, .int .i64 fan, .slice a hs.length c]) (fun w' h => h) rfl ?_
  refine jr ⟨?_⟩
  refine ldnAll (l := [.int .i64 mm, .int .i64 fan, .slice a hs.length c]) (fun w' h => h) rfl ?_
  refine jr ⟨?_⟩
  refine Cl.mono (filled_spec (hs := hs) (mm := mm) (fan := fan) (c := c) (bss := bss) (hG.part hS (L := [])) ((hS.arrOld ha).sub (by simp)) hhl (hb.keep hS) hsz hn hc) ?_
  rintro _ w6 ⟨sb, f, L1, rfl, hK1, hS'⟩
  have hS := hS.callNew hS'
  refine Chk.mk (hcell _ L1 hS) ?_
  refine jr ⟨?_⟩
  have hml : ((eachM bss).map fun o => [o]).length = n := by rw [kAv]; exact hnl.symm
  have hmn : numB' ((eachM bss).map fun o => [o]) = n := by rw [numB_one]; exact hnl.symm
  have hfl := fun w' (hg : Glob w' []) (h1 : Arr w' [] a (hs.map intV)) (h2 : BatsAt w' a5 ((eachM bss).map fun o => [o])) => filled_spec (w := w') hg (hs := hs) (mm := mm) (fan := fan) (c := c) (cb := c5) h1 hhl h2 (fun b hb => by
   obtain ⟨o, ho, rfl⟩ := kAm.1 hb
   have := eachM_sz o ho
   unfold sizeO; simp; omega) (by omega) (by omega)
  rw [hml, hmn, fill_one _ _ eachM_sz, ← fill_each] at hfl
  refine Cl.mono (hfl _ (hG.part hS (L := [])) ((hS.arrOld ha).sub (by simp)) (hO.bats (hS.part (L := Lo)) (hv.arr hS (by simp)))) ?_
  rintro _ w7 ⟨sb2, f2, L2, rfl, hK2, hS'⟩
  have hS := hS.callNew hS'
  have hl1 := hK1.len
  have hfl2 : ((fillM [] bss).filter (inK [] [])).length ≤ 262144 := kBb (List.length_filter_le _ _) hl1
  have hS := hS.sub (H' := L2 ++ L1) ((List.Sublist.refl L2).append (kBk L1 _))
  refine jr ⟨?_⟩
  (repeat (refine jt ⟨?_⟩; refine hS.st rfl rfl ?_; intro _ hS)); refine jt ⟨?_⟩
  refine Cl.mono (KScan hK1 (hS.part (L := L1)) [] []) ?_
  rintro _ w8 ⟨a8, c8, Lv, rfl, hv8, hS'⟩
  have hS := hS.call (L := L1) hS'
  (repeat (refine jt ⟨?_⟩; refine hS.st rfl rfl ?_; intro _ hS)); refine jt ⟨?_⟩
  refine Cl.mono (KScan hK2 (hS.part (L := L2)) [] []) ?_
  rintro _ w9 ⟨a9, c9, Lu, rfl, hv9, hS'⟩
  have hS := hS.call (L := L2) hS'
  (repeat (refine jt ⟨?_⟩; refine hS.st rfl rfl ?_; intro _ hS)); refine jt ⟨?_⟩
  refine Cl.mono (Same12_spec (hv8.arr hS (by simp)) (hv9.arr hS (by simp)) (by rw [kAv]; omega) (by rw [kAv]; omega)) ?_
  rintro _ w10 ⟨rfl, hS'⟩
  have hS := hS.call0 hS'
  rw [decide_eq_true rfl]
  (repeat (refine jt ⟨?_⟩; refine hS.st rfl rfl ?_; intro _ hS)); refine jt ⟨?_⟩
  exact ⟨rfl, hS.nil⟩
end Go.Proofs.YtkgibdhpijdbfaaGreatDoor
