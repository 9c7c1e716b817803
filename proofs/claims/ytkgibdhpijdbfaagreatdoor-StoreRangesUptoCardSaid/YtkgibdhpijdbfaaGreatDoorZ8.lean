/- Texts of this claim, one behind the other. -/
import Derived.Test.YtkgibdhpijdbfaaGreatDoorZ0
import Derived.Test.YtkgibdhpijdbfaaGreatDoorZ7
set_option linter.unusedVariables false
set_option linter.unusedSimpArgs false
namespace Go.Eng
open Go
theorem dep_mono {ops : Array Oper} {i : Nat} : ∀ {n m j : Nat}, n ≤ m → dep ops n j i = true → dep ops m j i = true
 |0, _, _, _, h => by simp [dep] at h
 |n + 1, 0, _, hl, _ => absurd hl (Nat.not_succ_le_zero n)
 |n + 1, m + 1, j, hl, h => by
  unfold dep at h ⊢
  cases hj : ops[j]? with
  |none => rw [hj] at h; cases h
  |some oj =>
   rw [hj] at h
   simp only [Array.any_eq_true] at h ⊢
   obtain ⟨k, hk, h⟩ := h
   refine ⟨k, hk, ?_⟩
   rw [Bool.and_eq_true, Bool.or_eq_true] at h ⊢
   exact ⟨h.1, h.2.imp id (dep_mono (Nat.le_of_succ_le_succ hl))⟩
def freeQ (q : Nat) (ops : Array Oper) (listed : Array Bool) (i : Nat) : Bool :=
 match ops[i]? with
 |none => false
 |some oi => (List.range ops.size).all fun j => j == i || listed.getD j true || (match ops[j]? with | some oj => oi.apart ops oj | none => true) || dep ops q j i
theorem freeQ_of {q : Nat} {ops : Array Oper} {listed : Array Bool} {i : Nat} (hq : q ≤ ops.size) (h : freeQ q ops listed i = true) : free' ops listed i = true := by
 unfold freeQ at h
 unfold free'
 cases hi : ops[i]? with
 |none => rw [hi] at h; cases h
 |some oi =>
  rw [hi] at h
  simp only [kBd, Bool.or_eq_true] at h ⊢
  intro j hj
  rcases h j hj with ((h1 | h1) | h1) | h1
  ·exact .inl (.inl (.inl h1))
  ·exact .inl (.inl (.inr h1))
  ·exact .inr h1
  ·exact .inl (.inr (dep_mono hq h1))
def planQ (q : Nat) (ops : Array Oper) (kd : Op → OpKind) : List Nat → Array Bool → Bool
 |[], listed => (Region.ready .any ops listed).isEmpty
 |i :: r, listed => match ops[i]? with
  |none => false
  |some o => (match kd o.op with
   |.pure => (Region.ready .any ops listed).contains i && freeQ q ops listed i
   |.read => (Region.ready .any ops listed).contains i && freeQ q ops listed i
   |.eff => false) && planQ q ops kd r (listed.setIfInBounds i true)
theorem planQ_of {q : Nat} {ops : Array Oper} {kd : Op → OpKind} (hq : q ≤ ops.size) : ∀ {ord : List Nat} {listed : Array Bool}, planQ q ops kd ord listed = true → planOK ops kd [] ord true listed = true
 |[], _, h => h
 |i :: r, listed, h => by
  unfold planQ at h
  unfold planOK
  cases hi : ops[i]? with
  |none => rw [hi] at h; cases h
  |some o =>
   rw [hi] at h
   simp only at h ⊢
   have hw : ∀ l j, finWait ops l [] j = true := fun _ _ => rfl
   rw [Bool.and_eq_true] at h
   obtain ⟨h1, h2⟩ := h
   have ih := planQ_of hq h2
   cases hk : kd o.op with
   |pure =>
    rw [hk] at h1
    simp only [Bool.and_eq_true] at h1 ⊢
    exact ⟨⟨by simp, ⟨⟨h1.1, freeQ_of hq h1.2⟩, by rw [hw]; simp⟩⟩, ih⟩
   |read =>
    rw [hk] at h1
    simp only [Bool.and_eq_true] at h1 ⊢
    exact ⟨⟨by simp, ⟨⟨⟨h1.1, freeQ_of hq h1.2⟩, by simp⟩, hw _ _⟩⟩, ih⟩
   |eff => rw [hk] at h1; cases h1
theorem SemW.drawQ {P : Program} {T : Tbl} (hT : TOk P T) {N : Nat} {id : Nat} {all : List Oper} {Q : Exit → Env → World → Prop} {e : Env} {w : World} (hm : P.follows .mixedOrders = true)
  (C : World → Prop) (ord : List Nat) (hok : (Region.noSelect ⟨all⟩ && Nat.beq ord.length all.length && Nat.ble 3 (Array.mk all).size && planQ 3 ⟨all⟩ (kind T) ord (Array.replicate (Array.mk all).size false)) = true)
  (hC : C w.drew) (h : vcD P T N all C [] ord e w.drew fun e' w' => Q .normal e' w') : StopW P N (.region id ⟨all⟩ true) Q e w := by
 simp only [Bool.and_eq_true] at hok
 obtain ⟨⟨⟨h1, h2⟩, h3⟩, h4⟩ := hok
 refine SemW.draw hT hm C [] ord ?_ hC h
 simp only [Bool.and_eq_true]
 exact ⟨⟨h1, h2⟩, planQ_of (kDm h3) h4⟩
end Go.Eng
namespace Go.Proofs.YtkgibdhpijdbfaaGreatDoor
open Go Go.Eng Go.Proofs Go.Srt
theorem Sto.rise {sb f c e : Nat} {gv : Int} {now : List RecM} {lk : Looks} {L : Heap} (h : Sto sb f c e gv now lk L) : now.Pairwise LessR ∧ now.length ≤ 262144 := by
 obtain ⟨s, m, -, hI, -⟩ := h
 exact ⟨hI.core.view.rise, kBb hI.core.nlen hI.e1⟩
theorem Sto.klen {sb f c e : Nat} {gv : Int} {now : List RecM} {lk : Looks} {L : Heap} (h : Sto sb f c e gv now lk L) : ∀ r ∈ now, r.1.length ≤ 4096 := by
 obtain ⟨s, m, -, hI, -⟩ := h
 intro r hr
 obtain ⟨x, hx, -⟩ := (hI.core.view.all r.1 r.2).1 hr
 have hm := hx.mem
 rw [allE_eq, kAl] at hm
 have hz : szE x ≤ 4096 := by
  rcases hm with hm | hm
  ·exact hI.core.mem.sz x hm
  ·obtain ⟨l, hl, hxl⟩ := kCx.1 hm
   obtain ⟨y, hy, rfl⟩ := kAm.1 hl
   exact (hI.core.tab y hy).1.sz x hxl
 rw [← hx.key]
 unfold szE at hz; omega
theorem cellA {w : World} {T : List Nat} {g off i j : Nat} {xs : List Value} (ha : Arr w T (some ⟨g, off, none⟩) xs) {v : Value} (hx : xs[j]? = some v) (hi : i = off + j := by first | rfl | omega) : w.cell? ⟨g, i, none⟩ = some v := by
 obtain ⟨b', off', h1, -, h3⟩ := ha j v hx
 simp only [Option.some.injEq, Addr.mk.injEq, and_true] at h1
 obtain ⟨rfl, rfl⟩ := h1
 subst hi
 exact h3
theorem inK_all (now : List RecM) : now.filter (inK [] []) = now := by
 rw [List.filter_eq_self]
 intro r _
 unfold inK
 rw [bless_nil]; rfl
theorem inB_rop (now : List RecM) (fr to : Bytes) : (now.map rop).filter (inB fr to) = (now.filter (inK fr to)).map rop := by
 rw [List.filter_map]; rfl
set_option maxRecDepth 8000 in
set_option maxHeartbeats 8000000 in
theorem Ranges_spec {w : World} (hG : Glob w []) {ab : Option Addr} {cb : Nat} {bss : List (List OpM)} (hb : BatsAt w ab bss) (hsz : ∀ b ∈ bss, sizeO b ≤ 1099511627776) (hn : numB' bss ≤ 262144) (hc : bss.length ≤ 1048575) (fr to : Bytes) :
  Cl Tryz.prog f_tarmaclaw12_StoreRanges [.slice ab bss.length cb, Str fr, Str to] w fun v w' => v = .bool true ∧ St w [] [] w' := by
 have hS := St.start w
 refine en_tarmaclaw12_StoreRanges rfl ?_
 (repeat (refine jt ⟨?_⟩; refine hS.st rfl rfl ?_; intro _ hS)); refine jt ⟨?_⟩
 refine Cl.mono (lives_spec (hG.part hS (L := []))) ?_
 rintro _ w1 ⟨rfl, hS'⟩
 have hS := hS.call0 hS'
 (repeat (refine jt ⟨?_⟩; refine hS.st rfl rfl ?_; intro _ hS)); refine jt ⟨?_⟩
 refine hS.al ?_
 intro b7 w2 _ hS
 (repeat (refine jt ⟨?_⟩; refine hS.st rfl rfl ?_; intro _ hS)); refine jt ⟨?_⟩
 refine Cl.mono (filled_spec (hs := []) (mm := 3) (fan := 1) (c := 0) (a := none) (hG.part hS (L := [])) (Arr.nil _ _ _) (by decide) (hb.keep hS) hsz hn hc) ?_
 rintro _ w3 ⟨sb, f, L1, rfl, hK, hS'⟩
 have hS := hS.callNew hS'
 obtain ⟨hri, hln⟩ := hK.rise
 have hkl := hK.klen
 generalize fillM [] bss = now at hK hri hln hkl
 have hS := hS.sub (kBk L1 _)
 (repeat (refine jt ⟨?_⟩; refine hS.st rfl rfl ?_; intro _ hS)); refine jt ⟨?_⟩
 refine Cl.mono (KScan hK hS.holds [] []) ?_
 rw [inK_all]
 rintro _ w4 ⟨a9, c9, Lv, rfl, hv9, hS'⟩
 have hS := hS.call (L := L1) hS'
 (repeat (refine jt ⟨?_⟩; refine hS.st rfl rfl ?_; intro _ hS)); refine jt ⟨?_⟩
 refine Cl.mono (KScan hK (hS.part (L := L1)) fr to) ?_
 rintro _ w5 ⟨a11, c11, Lu, rfl, hv11, hS'⟩
 have hS := hS.call (L := L1) hS'
 have hfl : (now.filter (inK fr to)).length ≤ 262144 := kBb (List.length_filter_le _ _) hln
 (repeat (refine jt ⟨?_⟩; refine hS.st rfl rfl ?_; intro _ hS)); refine jt ⟨?_⟩
 refine Cl.mono (Scan12_spec (hv9.arr hS (by simp)) fr to (by rw [kAv]; omega)) ?_
 rw [inB_rop]
 rintro _ w6 ⟨a12, c12, Lx, rfl, hv12, hS'⟩
 have hS := hS.callNew hS'
 (repeat (refine jt ⟨?_⟩; refine hS.st rfl rfl ?_; intro _ hS)); refine jt ⟨?_⟩
 refine Cl.mono (Same12_spec (hv11.arr hS (by simp)) (hv12.arr hS (by simp)) (by rw [kAv]; omega) (by rw [kAv]; omega)) ?_
 rintro _ w7 ⟨rfl, hS'⟩
 have hS := hS.call0 hS'
 rw [decide_eq_true rfl]
 (repeat (refine jt ⟨?_⟩; refine hS.st rfl rfl ?_; intro _ hS)); refine jt ⟨?_⟩
 have hS : St w [] (Lv ++ L1) w7 := hS.sub (((List.Sublist.refl Lv).append (kAj Lu L1)).trans (kAj Lx _))
 have hlm : (now.map rop).length = now.length := kAv ..
 have hopl := opsC_len (now.map rop)
 refine SemW.loop (fun k : Nat => [(8, ptr sb), (9, .slice a9 (now.map rop).length c9), (53, .slice a9 (now.map rop).length c9), (54, .int .i64 (now.map rop).length), (55, .int .i64 k)])
  (fun k w' => k ≤ now.length ∧ St w [] (Lv ++ L1) w') (fun k => now.length - k) 0
  ⟨rfl, rfl, rfl, rfl, rfl, trivial⟩ ⟨kAg _, hS⟩ ?_
 clear hS
 rintro k w8 ⟨hk, hS⟩
 by_cases hkn : k < now.length
 ·have ha9 := hv9.arr hS (T' := []) (by simp)
  obtain ⟨g, off, rfl, -, -⟩ := ha9.get (j := k * 3) (by omega)
  have hat := opsC_at (now.map rop) k (by omega)
  have hlk := lookR_of hri (show (now[k].1, now[k].2) ∈ now from kAx hkn)
  have hkk := hkl _ (kAx hkn)
  have hprev : 0 < k → ∃ p, ((now.map rop).flatMap opDC)[(k - 1) * 3]? = some (Str p) ∧ Op.bytesLess p now[k].1 = true := fun h0 => by
   have h1 : k - 1 < now.length := by omega
   refine ⟨now[k - 1].1, ?_, (kDe.1 hri) (k - 1) k h1 hkn (by omega)⟩
   rw [ropsC, recsC_key now (k - 1) h1]
  rw [kCp] at hat
  generalize now[k] = r at hat hlk hkk hprev
  (repeat (refine jt ⟨?_⟩; refine hS.st rfl rfl ?_; intro _ hS)); refine jt ⟨?_⟩
  rw [opDC_rop] at hat
  refine Arr.ldn (St.start w8) ha9 rfl (k := k * 3) hat rfl ?_
  unfold opC
  (repeat (refine jt ⟨?_⟩; refine hS.st rfl rfl ?_; intro _ hS)); refine jt ⟨?_⟩
  refine hS.al ?_
  intro b14 w9 _ hS
  (repeat (refine jt ⟨?_⟩; refine hS.st rfl rfl ?_; intro _ hS)); refine jt ⟨?_⟩
  refine Cl.mono (KGet hK (hS.part (L := L1)) r.1 (by omega)) ?_
  rw [hlk]
  rintro _ w10 ⟨rfl, hS'⟩
  have hS := hS.call (L := L1) hS'
  simp only [kBu, Option.isSome_some]
  (repeat (refine jt ⟨?_⟩; refine hS.st rfl rfl ?_; intro _ hS)); refine jt ⟨?_⟩
  refine SemW.drawQ tblOk mixed (fun w' => St w [] _ w') [0, 1, 2, 3, 4, 5, 6, 7, 8, 9, 10, 11, 12, 13, 14, 15, 16, 17, 18, 19, 20, 21, 22, 23, 24, 25, 26, 27, 28, 29, 30] (by kernel_rfl) hS.drew ?_
  have hS := hS.drew
  by_cases hk0 : 0 < k
  ·obtain ⟨p, hp1, hp2⟩ := hprev hk0
   refine jr ⟨?_⟩
   rw [show ((k : Int) - 1) = ((k - 1 : Nat) : Int) by omega]
   refine jr ⟨?_⟩
   refine ldAll (v := Str p) (fun w' h => by have hA := hv9.arr h (T' := []) (by simp); exact cellA hA hp1 (by simp)) ?_
   refine jr ⟨?_⟩
   rw [hp2]
   refine jr ⟨?_⟩
   exact ⟨k + 1, ⟨rfl, rfl, rfl, rfl, rfl, trivial⟩, ⟨by omega, hS.sub (kAb _ _)⟩, by omega⟩
  ·refine jr ⟨?_⟩
   exact ⟨k + 1, ⟨rfl, rfl, rfl, rfl, rfl, trivial⟩, ⟨by omega, hS.sub (kAb _ _)⟩, by omega⟩
 ·obtain rfl : k = now.length := by omega
  (repeat (refine jt ⟨?_⟩; refine hS.st rfl rfl ?_; intro _ hS)); refine jt ⟨?_⟩
  exact ⟨rfl, hS.nil⟩
end Go.Proofs.YtkgibdhpijdbfaaGreatDoor
