/- tarmaclaw04.VfsSpace. -/
import Derived.Test.YtnmmiiffeenjbaaPower
namespace Go.Proofs.Ytnmmiiffeenjbaa
open Go Go.Eng Go.Proofs

theorem kget_kput {κ α : Type} [DecidableEq κ] (a : κ) (v : α) (k : κ) : ∀ m : List (κ × α), kget k (kput a v m) = if k = a then some v else kget k m
  | [] => rfl
  | (b, u) :: r => by
    by_cases h : a = b
    · subst h
      simp only [kput, if_pos, kget]
      split <;> rfl
    · simp only [kput, if_neg h, kget, kget_kput a v k r]
      by_cases h2 : k = b
      · subst h2
        rw [if_pos rfl, if_neg (fun e => h e.symm), if_pos rfl]
      · rw [if_neg h2, if_neg h2]
/-- The places that have no room: each number modulo 16. -/
def plN (z : Int) : Nat := (IntKind.u64.wrap z).toNat % 16
theorem plN_eq (z : Int) : ∃ q : Nat, IntKind.u64.wrap z = (q : Int) ∧ ((q : Int).tmod 16 = (plN z : Int)) ∧ plN z < 16 := by
  obtain ⟨q, hq, -⟩ := wrapU_range .u64 rfl z
  refine ⟨q, hq, ?_, Nat.mod_lt _ (by omega)⟩
  unfold plN
  rw [hq, Int.tmod_eq_emod_of_nonneg (by omega)]; simp
def plcs (ns : List Int) : List Int := ns.map fun z => (plN z : Int)
def fts3 (ns : List Int) : List (Int × Int) := ns.map fun z => ((plN z : Int), 3)
theorem plcs_succ (ns : List Int) (k : Nat) (hk : k < ns.length) : plcs (ns.take (k + 1)) = plcs (ns.take k) ++ [(plN ns[k] : Int)] := by
  unfold plcs
  rw [List.take_succ_eq_append_getElem hk, List.map_append]; rfl
theorem fts3_succ (ns : List Int) (k : Nat) (hk : k < ns.length) : fateC (fts3 (ns.take (k + 1))) = fateC (fts3 (ns.take k)) ++ [intV (plN ns[k] : Int), intV 3] := by
  unfold fateC fts3
  rw [List.take_succ_eq_append_getElem hk, List.map_append, List.flatMap_append]; rfl
theorem armK3 (ns : List Int) (p : Int) : ∀ k, k ≤ ns.length → kget p (armK (fts3 ns) k) = if p ∈ plcs (ns.take k) then some 3 else none
  | 0, _ => by simp [armK, kget, plcs]
  | k + 1, hk => by
    have ih := armK3 ns p k (by omega)
    have ih2 := armK3 ns ((plN ns[k] : Int)) k (by omega)
    have e : (fts3 ns).getD k (0, 0) = ((plN ns[k] : Int), 3) := by simp [fts3, show k < ns.length by omega]
    have et := plcs_succ ns k (by omega)
    simp only [armK, e]
    rw [et]
    by_cases hm : (plN ns[k] : Int) ∈ plcs (ns.take k)
    · rw [if_pos (.inr (.inr (by rw [ih2, if_pos hm]; decide))), ih]
      congr 1
      simp only [List.mem_append, List.mem_singleton, eq_iff_iff]
      exact ⟨.inl, fun h => h.elim id (fun h => h ▸ hm)⟩
    · rw [if_neg (by rw [ih2, if_neg hm]; decide), kget_kput, ih]
      by_cases hp : p = (plN ns[k] : Int)
      · rw [if_pos hp, if_pos (by simp [hp])]
      · rw [if_neg hp]; congr 1; simp [hp]
def wantS (B : Nat → Bool) (ps : List Bytes) : Nat → Option Bytes
  | 0 => none
  | i + 1 => if B i then wantS B ps i else some ((wantS B ps i).getD [] ++ ps.getD i [])
theorem wantS_len (B : Nat → Bool) (ps : List Bytes) : ∀ i, ((wantS B ps i).getD []).length ≤ sumLen (ps.take i)
  | 0 => by simp [wantS]
  | i + 1 => by
    have ih := wantS_len B ps i
    by_cases hi : i < ps.length
    · have h1 := sumLen_take ps i hi
      simp only [wantS]
      split
      · omega
      · simp [hi]; omega
    · have e : ps.getD i [] = [] := by simp [show ps.length ≤ i by omega]
      have e2 : ps.take (i + 1) = ps.take i := by rw [List.take_of_length_le (by omega), List.take_of_length_le (by omega)]
      simp only [wantS, e, e2]
      split
      · exact ih
      · simpa using ih
def spM (K : List (Int × Int)) (o : Option Bytes) (i : Nat) : FSm := ⟨fileL (o.map fun x => (x, 0)), K, i, i, false⟩
theorem sp_step (K : List (Int × Int)) (B : Nat → Bool) (hB : ∀ i : Nat, kget (i : Int) K = if B i then some 3 else none) (ps : List Bytes) (i : Nat) (hi : i < ps.length) :
    appendM (spM K (wantS B ps i) i) nX [ps[i]] = (if B i then 6 else 0, spM K (wantS B ps (i + 1)) (i + 1)) := by
  have hf : fateOf (spM K (wantS B ps i) i) = if B i then 3 else 0 := by
    show (kget (i : Int) K).getD 0 = _
    rw [hB]; split <;> rfl
  have hg : fget (spM K (wantS B ps i) i) nX = (wantS B ps i).map fun x => (x, 0) := fget_fileL _ _ _ _ _
  cases hb : B i with
  | true =>
    rw [hb] at hf
    rw [app3 _ _ _ rfl rfl hf]
    simp only [wantS, hb, if_true]; rfl
  | false =>
    rw [hb] at hf
    rw [app0 _ _ _ rfl rfl hf, hg]
    simp only [wantS, hb]
    show (_, (⟨kput nX _ (fileL _), _, _, _, _⟩ : FSm)) = _
    rw [kput_fileL]
    have : ps.getD i [] = ps[i] := by simp [hi]
    rw [this]
    cases wantS B ps i <;> simp [spM]

theorem nodup_far {w0 w : World} {T : List Nat} {Lv L : Heap} {x : Nat × Obj} (hS : St w0 T (Lv ++ x :: L) w) : ∀ b ∈ keys Lv, b ∉ keys L := by
  have := hS.nd
  rw [show keys (Lv ++ x :: L) = keys Lv ++ x.1 :: keys L by simp [keys]] at this
  intro b hb hL
  exact (List.nodup_append.1 this).2.2 b hb b (List.mem_cons_of_mem _ hL) rfl
theorem nodup_two {w0 w : World} {T : List Nat} {L : Heap} {b : Nat} {o : Obj} {x : Nat × Obj} (hS : St w0 T ((b, o) :: x :: L) w) : b ∉ keys L := by
  have := hS.nd
  rw [show keys ((b, o) :: x :: L) = b :: x.1 :: keys L by simp [keys]] at this
  intro hL
  exact (List.nodup_cons.1 this).1 (List.mem_cons_of_mem _ hL)

set_option maxHeartbeats 2000000 in
set_option maxRecDepth 4000 in
theorem VfsSpace_spec {w : World} {a0 a1 : Option Addr} {c0 c1 : Nat} {ps : List Bytes} {ns : List Int} (ha0 : Arr w [] a0 (ps.map Str)) (ha1 : Arr w [] a1 (ns.map intV)) (hb : sumLen ps + ps.length ≤ 1048576) (hn : ns.length ≤ 1048576) :
    Cl Try.prog f_tarmaclaw04_VfsSpace [.slice a0 ps.length c0, .slice a1 ns.length c1] w fun v w' => v = .bool true ∧ St w [] [] w' := by
  have hS := St.start w
  refine en_tarmaclaw04_VfsSpace rfl ?_
  repeat (first | refine SemW.run tblOk ?_ | refine IntG.nw (by omega) ?_ | refine IntG.nu8 (by omega) ?_ | refine IntG.nu32 (by omega) ?_ | refine IntG.nu64 (by omega) ?_ | refine IntG.wr' rfl ?_ | refine Chk.mk (by omega) ?_ | (refine BrG.id ?_; first | with_reducible refine BrG.t ?_ | with_reducible refine BrG.f ?_ | with_reducible refine BrG.notG ?_ | with_reducible refine BrG.nn ?_ | with_reducible refine BrG.ns ?_ | refine BrG.pos (by omega) ?_ | refine BrG.neg (by omega) ?_) | refine Chk.mk (ptr_ok tblOk rfl rfl) ?_)
  refine lives4_spec.mono ?_
  rintro _ w1 ⟨rfl, hS'⟩
  have hS := hS.call0 hS'
  repeat (first | refine SemW.run tblOk ?_ | refine IntG.nw (by omega) ?_ | refine IntG.nu8 (by omega) ?_ | refine IntG.nu32 (by omega) ?_ | refine IntG.nu64 (by omega) ?_ | refine IntG.wr' rfl ?_ | refine Chk.mk (by omega) ?_ | (refine BrG.id ?_; first | with_reducible refine BrG.t ?_ | with_reducible refine BrG.f ?_ | with_reducible refine BrG.notG ?_ | with_reducible refine BrG.nn ?_ | with_reducible refine BrG.ns ?_ | refine BrG.pos (by omega) ?_ | refine BrG.neg (by omega) ?_) | refine Chk.mk (ptr_ok tblOk rfl rfl) ?_)
  refine New_spec.mono ?_
  rintro _ w2 ⟨f, L, rfl, hf, hF, hS'⟩
  have hS := hS.callNew hS'
  rw [List.append_nil] at hS
  repeat (first | refine SemW.run tblOk ?_ | refine IntG.nw (by omega) ?_ | refine IntG.nu8 (by omega) ?_ | refine IntG.nu32 (by omega) ?_ | refine IntG.nu64 (by omega) ?_ | refine IntG.wr' rfl ?_ | refine Chk.mk (by omega) ?_ | (refine BrG.id ?_; first | with_reducible refine BrG.t ?_ | with_reducible refine BrG.f ?_ | with_reducible refine BrG.notG ?_ | with_reducible refine BrG.nn ?_ | with_reducible refine BrG.ns ?_ | refine BrG.pos (by omega) ?_ | refine BrG.neg (by omega) ?_) | refine Chk.mk (ptr_ok tblOk rfl rfl) ?_)
  refine hS.al ?_
  intro mb w3 _ hS
  repeat (first | refine SemW.run tblOk ?_ | refine IntG.nw (by omega) ?_ | refine IntG.nu8 (by omega) ?_ | refine IntG.nu32 (by omega) ?_ | refine IntG.nu64 (by omega) ?_ | refine IntG.wr' rfl ?_ | refine Chk.mk (by omega) ?_ | (refine BrG.id ?_; first | with_reducible refine BrG.t ?_ | with_reducible refine BrG.f ?_ | with_reducible refine BrG.notG ?_ | with_reducible refine BrG.nn ?_ | with_reducible refine BrG.ns ?_ | refine BrG.pos (by omega) ?_ | refine BrG.neg (by omega) ?_) | refine Chk.mk (ptr_ok tblOk rfl rfl) ?_)
  refine SemW.loop (fun (x : Nat × Option Addr × Nat) => [(0, .slice a0 ps.length c0), (5, ptr f), (6, .slice x.2.1 x.1 x.2.2), (7, .map (some mb)), (22, .slice a1 ns.length c1), (23, .int .i64 ns.length), (24, .int .i64 x.1)])
    (fun x w' => x.1 ≤ ns.length ∧ ∃ Lv es c kvs, Vec T_api_Fate 2 x.2.1 x.1 x.2.2 (fateC (fts3 (ns.take x.1))) Lv ∧ MapC intV intV es c kvs ∧ (∀ p, kget p kvs = if p ∈ plcs (ns.take x.1) then some 1 else none) ∧ St w [] (Lv ++ (mb, .map es c) :: L) w') (fun x => ns.length - x.1) (0, none, 0)
    ⟨rfl, rfl, rfl, rfl, rfl, rfl, rfl, trivial⟩ ⟨Nat.zero_le _, [], #[], 0, [], Vec.nil, ⟨rfl, by simp [Stamp]⟩, by simp [kget, plcs], hS⟩ ?_
  rintro ⟨k, va, vc⟩ w4 ⟨hk, Lv, es, c, kvs, hv, hm, hkv, hS⟩
  simp only at hk hv hkv ⊢
  by_cases hkl : k < ns.length
  · obtain ⟨b', off', rfl, -, hck⟩ := ha1.get (j := k) (by simp; omega)
    simp only [List.getElem_map] at hck
    have et := plcs_succ ns k (by omega)
    have ef := fts3_succ ns k (by omega)
    repeat (first | refine SemW.run tblOk ?_ | refine IntG.nw (by omega) ?_ | refine IntG.nu8 (by omega) ?_ | refine IntG.nu32 (by omega) ?_ | refine IntG.nu64 (by omega) ?_ | refine IntG.wr' rfl ?_ | refine Chk.mk (by omega) ?_ | (refine BrG.id ?_; first | with_reducible refine BrG.t ?_ | with_reducible refine BrG.f ?_ | with_reducible refine BrG.notG ?_ | with_reducible refine BrG.nn ?_ | with_reducible refine BrG.ns ?_ | refine BrG.pos (by omega) ?_ | refine BrG.neg (by omega) ?_) | refine Chk.mk (ptr_ok tblOk rfl rfl) ?_)
    refine hS.ldOld (by simp) (by simpa using hck) ?_
    generalize ns[k] = z at et ef
    obtain ⟨q, hq, htm, h16⟩ := plN_eq z
    repeat (first | refine SemW.run tblOk ?_ | refine IntG.nw (by omega) ?_ | refine IntG.nu8 (by omega) ?_ | refine IntG.nu32 (by omega) ?_ | refine IntG.nu64 (by omega) ?_ | refine IntG.wr' rfl ?_ | refine Chk.mk (by omega) ?_ | (refine BrG.id ?_; first | with_reducible refine BrG.t ?_ | with_reducible refine BrG.f ?_ | with_reducible refine BrG.notG ?_ | with_reducible refine BrG.nn ?_ | with_reducible refine BrG.ns ?_ | refine BrG.pos (by omega) ?_ | refine BrG.neg (by omega) ?_) | refine Chk.mk (ptr_ok tblOk rfl rfl) ?_)
    rw [hq, htm]
    repeat (first | refine SemW.run tblOk ?_ | refine IntG.nw (by omega) ?_ | refine IntG.nu8 (by omega) ?_ | refine IntG.nu32 (by omega) ?_ | refine IntG.nu64 (by omega) ?_ | refine IntG.wr' rfl ?_ | refine Chk.mk (by omega) ?_ | (refine BrG.id ?_; first | with_reducible refine BrG.t ?_ | with_reducible refine BrG.f ?_ | with_reducible refine BrG.notG ?_ | with_reducible refine BrG.nn ?_ | with_reducible refine BrG.ns ?_ | refine BrG.pos (by omega) ?_ | refine BrG.neg (by omega) ?_) | refine Chk.mk (ptr_ok tblOk rfl rfl) ?_)
    refine hS.al ?_
    intro r w5 _ hS
    repeat (first | refine SemW.run tblOk ?_ | refine IntG.nw (by omega) ?_ | refine IntG.nu8 (by omega) ?_ | refine IntG.nu32 (by omega) ?_ | refine IntG.nu64 (by omega) ?_ | refine IntG.wr' rfl ?_ | refine Chk.mk (by omega) ?_ | (refine BrG.id ?_; first | with_reducible refine BrG.t ?_ | with_reducible refine BrG.f ?_ | with_reducible refine BrG.notG ?_ | with_reducible refine BrG.nn ?_ | with_reducible refine BrG.ns ?_ | refine BrG.pos (by omega) ?_ | refine BrG.neg (by omega) ?_) | refine Chk.mk (ptr_ok tblOk rfl rfl) ?_)
    refine St.app (sz := 2) (m := 1) tblOk rfl rfl rfl rfl hS hv (news := [intV (plN z : Int), intV 3]) rfl (hS.arr (b := r) (by simp)) rfl (by show (_ + _) * 16 ≤ _; omega) (by omega) ?_
    intro va' vc' Lv' w6 hv' hS
    repeat (first | refine SemW.run tblOk ?_ | refine IntG.nw (by omega) ?_ | refine IntG.nu8 (by omega) ?_ | refine IntG.nu32 (by omega) ?_ | refine IntG.nu64 (by omega) ?_ | refine IntG.wr' rfl ?_ | refine Chk.mk (by omega) ?_ | (refine BrG.id ?_; first | with_reducible refine BrG.t ?_ | with_reducible refine BrG.f ?_ | with_reducible refine BrG.notG ?_ | with_reducible refine BrG.nn ?_ | with_reducible refine BrG.ns ?_ | refine BrG.pos (by omega) ?_ | refine BrG.neg (by omega) ?_) | refine Chk.mk (ptr_ok tblOk rfl rfl) ?_)
    refine St.mapSet tblOk KEnc.i64 rfl rfl und_int hS (v := 1) hm ?_
    intro es2 c2 w7 hm2 hS
    have hS : St w [] ((r, .cells ⟨[intV (plN z : Int), intV 3]⟩ T_api_Fate (0, 0)) :: (Lv' ++ (mb, .map es2 c2) :: L)) _ := hS
    have hS := hS.sub (List.sublist_cons_self _ _)
    repeat (first | refine SemW.run tblOk ?_ | refine IntG.nw (by omega) ?_ | refine IntG.nu8 (by omega) ?_ | refine IntG.nu32 (by omega) ?_ | refine IntG.nu64 (by omega) ?_ | refine IntG.wr' rfl ?_ | refine Chk.mk (by omega) ?_ | (refine BrG.id ?_; first | with_reducible refine BrG.t ?_ | with_reducible refine BrG.f ?_ | with_reducible refine BrG.notG ?_ | with_reducible refine BrG.nn ?_ | with_reducible refine BrG.ns ?_ | refine BrG.pos (by omega) ?_ | refine BrG.neg (by omega) ?_) | refine Chk.mk (ptr_ok tblOk rfl rfl) ?_)
    refine ⟨(k + 1, va', vc'), ⟨rfl, rfl, rfl, rfl, rfl, rfl, rfl, trivial⟩, ⟨by simp only; omega, Lv', es2, c2, _, by simp only; rw [ef]; exact hv', hm2, ?_, hS⟩, by simp only; omega⟩
    intro p
    simp only
    rw [kget_kput, hkv, et]
    by_cases hp : p = (plN z : Int)
    · rw [if_pos hp, if_pos (by simp [hp])]
    · rw [if_neg hp]; congr 1; simp [hp]
  · have hke : k = ns.length := by omega
    subst hke
    rw [List.take_length] at hv hkv
    have hl3 : (fts3 ns).length = ns.length := by simp [fts3]
    repeat (first | refine SemW.run tblOk ?_ | refine IntG.nw (by omega) ?_ | refine IntG.nu8 (by omega) ?_ | refine IntG.nu32 (by omega) ?_ | refine IntG.nu64 (by omega) ?_ | refine IntG.wr' rfl ?_ | refine Chk.mk (by omega) ?_ | (refine BrG.id ?_; first | with_reducible refine BrG.t ?_ | with_reducible refine BrG.f ?_ | with_reducible refine BrG.notG ?_ | with_reducible refine BrG.nn ?_ | with_reducible refine BrG.ns ?_ | refine BrG.pos (by omega) ?_ | refine BrG.neg (by omega) ?_) | refine Chk.mk (ptr_ok tblOk rfl rfl) ?_)
    have hA := Arm_spec (cap := vc) (a := va) hF (hS.part (L := L)) (fs := fts3 ns) (hv.arr hS (nodup_far hS)) (by omega)
    rw [hl3] at hA
    refine hA.mono ?_
    rintro _ w5 ⟨L1, hF, hS'⟩
    have hS := (hS.call (L := L) hS').sub (List.sublist_append_right _ _)
    have hB : ∀ i : Nat, kget (i : Int) (armK (fts3 ns) ns.length) = if (fun i : Nat => decide ((i : Int) ∈ plcs ns)) i then some 3 else none := by
      intro i
      rw [armK3 ns _ _ (Nat.le_refl _), List.take_length]; simp
    have hBb : ∀ i : Nat, kget (i : Int) kvs = if (fun i : Nat => decide ((i : Int) ∈ plcs ns)) i then some 1 else none := by
      intro i
      rw [hkv]; simp
    have hF : FSo f (spM (armK (fts3 ns) ns.length) (wantS (fun i : Nat => decide ((i : Int) ∈ plcs ns)) ps 0) 0) L1 := hF
    generalize armK (fts3 ns) ns.length = K at hB hF
    generalize (fun i : Nat => decide ((i : Int) ∈ plcs ns)) = B at hB hBb hF
    repeat (first | refine SemW.run tblOk ?_ | refine IntG.nw (by omega) ?_ | refine IntG.nu8 (by omega) ?_ | refine IntG.nu32 (by omega) ?_ | refine IntG.nu64 (by omega) ?_ | refine IntG.wr' rfl ?_ | refine Chk.mk (by omega) ?_ | (refine BrG.id ?_; first | with_reducible refine BrG.t ?_ | with_reducible refine BrG.f ?_ | with_reducible refine BrG.notG ?_ | with_reducible refine BrG.nn ?_ | with_reducible refine BrG.ns ?_ | refine BrG.pos (by omega) ?_ | refine BrG.neg (by omega) ?_) | refine Chk.mk (ptr_ok tblOk rfl rfl) ?_)
    refine SemW.loop (fun k : Nat => [(0, .slice a0 ps.length c0), (5, ptr f), (7, .map (some mb)), (11, Str ((wantS B ps k).getD [])), (12, .bool (wantS B ps k).isSome), (45, .slice a0 ps.length c0), (46, .int .i64 ps.length), (47, .int .i64 k)])
      (fun k w' => k ≤ ps.length ∧ ∃ L, FSo f (spM K (wantS B ps k) k) L ∧ St w [] ((mb, .map es c) :: L) w') (fun k => ps.length - k) 0
      ⟨rfl, rfl, rfl, rfl, rfl, rfl, rfl, rfl, trivial⟩ ⟨Nat.zero_le _, L1, hF, hS⟩ ?_
    rintro k w6 ⟨hk, L2, hF, hS⟩
    by_cases hkl : k < ps.length
    · have h1 := sumLen_take ps k hkl
      have h2 := sumLen_take_le ps (k + 1)
      have hwl := wantS_len B ps k
      have hgB := hBb k
      obtain ⟨b', off', rfl, -, hck⟩ := ha0.get (j := k) (by simp; omega)
      simp only [List.getElem_map] at hck
      repeat (first | refine SemW.run tblOk ?_ | refine IntG.nw (by omega) ?_ | refine IntG.nu8 (by omega) ?_ | refine IntG.nu32 (by omega) ?_ | refine IntG.nu64 (by omega) ?_ | refine IntG.wr' rfl ?_ | refine Chk.mk (by omega) ?_ | (refine BrG.id ?_; first | with_reducible refine BrG.t ?_ | with_reducible refine BrG.f ?_ | with_reducible refine BrG.notG ?_ | with_reducible refine BrG.nn ?_ | with_reducible refine BrG.ns ?_ | refine BrG.pos (by omega) ?_ | refine BrG.neg (by omega) ?_) | refine Chk.mk (ptr_ok tblOk rfl rfl) ?_)
      refine hS.ldOld (by simp) (by simpa using hck) ?_
      repeat (first | refine SemW.run tblOk ?_ | refine IntG.nw (by omega) ?_ | refine IntG.nu8 (by omega) ?_ | refine IntG.nu32 (by omega) ?_ | refine IntG.nu64 (by omega) ?_ | refine IntG.wr' rfl ?_ | refine Chk.mk (by omega) ?_ | (refine BrG.id ?_; first | with_reducible refine BrG.t ?_ | with_reducible refine BrG.f ?_ | with_reducible refine BrG.notG ?_ | with_reducible refine BrG.nn ?_ | with_reducible refine BrG.ns ?_ | refine BrG.pos (by omega) ?_ | refine BrG.neg (by omega) ?_) | refine Chk.mk (ptr_ok tblOk rfl rfl) ?_)
      refine hS.al ?_
      intro r2 w7 _ hS
      repeat (first | refine SemW.run tblOk ?_ | refine IntG.nw (by omega) ?_ | refine IntG.nu8 (by omega) ?_ | refine IntG.nu32 (by omega) ?_ | refine IntG.nu64 (by omega) ?_ | refine IntG.wr' rfl ?_ | refine Chk.mk (by omega) ?_ | (refine BrG.id ?_; first | with_reducible refine BrG.t ?_ | with_reducible refine BrG.f ?_ | with_reducible refine BrG.notG ?_ | with_reducible refine BrG.nn ?_ | with_reducible refine BrG.ns ?_ | refine BrG.pos (by omega) ?_ | refine BrG.neg (by omega) ?_) | refine Chk.mk (ptr_ok tblOk rfl rfl) ?_)
      have hS : St w [] ((r2, .cells ⟨[Str ps[k]]⟩ T_string (0, 0)) :: (mb, .map es c) :: L2) _ := hS
      refine (Append_spec hF (hS.part (L := L2)) nX (ps := [ps[k]]) (hS.arr (b := r2) (nodup_two hS)) (by simp) (by simp) ?_ ?_ ?_).mono ?_
      · have e : sumLen [ps[k]] = ps[k].length := by simp [sumLen]
        have e2 : fget (spM K (wantS B ps k) k) nX = (wantS B ps k).map fun x => (x, 0) := fget_fileL _ _ _ _ _
        rw [e2, e]
        have : (((wantS B ps k).map fun x => (x, 0)).getD ([], 0)).1 = (wantS B ps k).getD [] := by cases wantS B ps k <;> rfl
        rw [this]; omega
      · show k + 1 ≤ _; omega
      · show k + 1 ≤ _; omega
      rw [sp_step K B hB ps k hkl]
      have hlk : ∀ {z : Int} {w' : World} {K1 : Value → Prop}, z = (kget (k : Int) kvs).getD 0 → St w [] ((mb, .map es c) :: L2) w' → K1 (.int .i64 z) → RdG Try.prog (Instr.lookup T_map_int_int (.map (some mb)) (intV k) false) (fun w'' => w' = w'') K1 := by
        intro z w' K1 hz hS hK
        refine lookupMap tblOk KEnc.i64 rfl rfl und_int rfl (kvs := kvs) (fun w'' hw' => ⟨es, c, by subst hw'; exact hS.mem (b := mb), hm.of⟩) ?_
        have : ((kget (k : Int) kvs).map intV).getD (.int .i64 0) = .int .i64 z := by
          rw [hz]; cases kget (k : Int) kvs <;> rfl
        rw [← this] at hK; exact hK
      have hne : wantS B ps (k + 1) = if B k then wantS B ps k else some ((wantS B ps k).getD [] ++ ps[k]) := by
        simp [wantS, hkl]
      cases hbk : B k with
      | true =>
        rw [hbk] at hgB hne
        simp only [if_true] at hgB hne
        rintro v w8 ⟨hv, L3, hF, hS'⟩
        have hv : v = .int .i64 6 := hv
        subst hv
        have hS := (hS.call (L := L2) hS').sub (List.sublist_cons_self _ _)
        have hS : St w [] ((mb, .map es c) :: L3) _ := hS
        have hfF : findM (spM K (wantS B ps (k + 1)) (k + 1)) nX = ((((wantS B ps (k + 1)).getD []), 0), if (wantS B ps (k + 1)).isSome then 0 else 5) := by
          unfold findM
          rw [if_neg (by simp [spM]), show fget (spM K (wantS B ps (k + 1)) (k + 1)) nX = (wantS B ps (k + 1)).map fun x => (x, 0) from fget_fileL _ _ _ _ _]
          cases wantS B ps (k + 1) <;> rfl
        repeat (first | refine SemW.run tblOk ?_ | refine IntG.nw (by omega) ?_ | refine IntG.nu8 (by omega) ?_ | refine IntG.nu32 (by omega) ?_ | refine IntG.nu64 (by omega) ?_ | refine IntG.wr' rfl ?_ | refine Chk.mk (by omega) ?_ | (refine BrG.id ?_; first | with_reducible refine BrG.t ?_ | with_reducible refine BrG.f ?_ | with_reducible refine BrG.notG ?_ | with_reducible refine BrG.nn ?_ | with_reducible refine BrG.ns ?_ | refine BrG.pos (by omega) ?_ | refine BrG.neg (by omega) ?_) | refine Chk.mk (ptr_ok tblOk rfl rfl) ?_)
        refine lookupMap tblOk KEnc.i64 rfl rfl und_int rfl (kvs := kvs) (fun w'' hw' => ⟨es, c, by subst hw'; exact hS.mem (b := mb), hm.of⟩) ?_
        simp only [hgB]
        refine Chk.mk (und_of tblOk (t := T_bool) rfl) ?_
        repeat (first | refine SemW.run tblOk ?_ | refine IntG.nw (by omega) ?_ | refine IntG.nu8 (by omega) ?_ | refine IntG.nu32 (by omega) ?_ | refine IntG.nu64 (by omega) ?_ | refine IntG.wr' rfl ?_ | refine Chk.mk (by omega) ?_ | (refine BrG.id ?_; first | with_reducible refine BrG.t ?_ | with_reducible refine BrG.f ?_ | with_reducible refine BrG.notG ?_ | with_reducible refine BrG.nn ?_ | with_reducible refine BrG.ns ?_ | refine BrG.pos (by omega) ?_ | refine BrG.neg (by omega) ?_) | refine Chk.mk (ptr_ok tblOk rfl rfl) ?_)
        refine BrG.eqt (by simp) ?_
        repeat (first | refine SemW.run tblOk ?_ | refine IntG.nw (by omega) ?_ | refine IntG.nu8 (by omega) ?_ | refine IntG.nu32 (by omega) ?_ | refine IntG.nu64 (by omega) ?_ | refine IntG.wr' rfl ?_ | refine Chk.mk (by omega) ?_ | (refine BrG.id ?_; first | with_reducible refine BrG.t ?_ | with_reducible refine BrG.f ?_ | with_reducible refine BrG.notG ?_ | with_reducible refine BrG.nn ?_ | with_reducible refine BrG.ns ?_ | refine BrG.pos (by omega) ?_ | refine BrG.neg (by omega) ?_) | refine Chk.mk (ptr_ok tblOk rfl rfl) ?_)
        refine (Read_spec hF (hS.part (L := L3)) nX).mono ?_
        rw [hfF, hne]
        rintro _ w9 ⟨rfl, hS'⟩
        have hS := hS.call (L := L3) hS'
        repeat (first | refine SemW.run tblOk ?_ | refine IntG.nw (by omega) ?_ | refine IntG.nu8 (by omega) ?_ | refine IntG.nu32 (by omega) ?_ | refine IntG.nu64 (by omega) ?_ | refine IntG.wr' rfl ?_ | refine Chk.mk (by omega) ?_ | (refine BrG.id ?_; first | with_reducible refine BrG.t ?_ | with_reducible refine BrG.f ?_ | with_reducible refine BrG.notG ?_ | with_reducible refine BrG.nn ?_ | with_reducible refine BrG.ns ?_ | refine BrG.pos (by omega) ?_ | refine BrG.neg (by omega) ?_) | refine Chk.mk (ptr_ok tblOk rfl rfl) ?_)
        refine BrG.pos rfl ?_
        repeat (first | refine SemW.run tblOk ?_ | refine IntG.nw (by omega) ?_ | refine IntG.nu8 (by omega) ?_ | refine IntG.nu32 (by omega) ?_ | refine IntG.nu64 (by omega) ?_ | refine IntG.wr' rfl ?_ | refine Chk.mk (by omega) ?_ | (refine BrG.id ?_; first | with_reducible refine BrG.t ?_ | with_reducible refine BrG.f ?_ | with_reducible refine BrG.notG ?_ | with_reducible refine BrG.nn ?_ | with_reducible refine BrG.ns ?_ | refine BrG.pos (by omega) ?_ | refine BrG.neg (by omega) ?_) | refine Chk.mk (ptr_ok tblOk rfl rfl) ?_)
        refine Chk.mk (und_of tblOk (t := T_bool) rfl) ?_
        repeat (first | refine SemW.run tblOk ?_ | refine IntG.nw (by omega) ?_ | refine IntG.nu8 (by omega) ?_ | refine IntG.nu32 (by omega) ?_ | refine IntG.nu64 (by omega) ?_ | refine IntG.wr' rfl ?_ | refine Chk.mk (by omega) ?_ | (refine BrG.id ?_; first | with_reducible refine BrG.t ?_ | with_reducible refine BrG.f ?_ | with_reducible refine BrG.notG ?_ | with_reducible refine BrG.nn ?_ | with_reducible refine BrG.ns ?_ | refine BrG.pos (by omega) ?_ | refine BrG.neg (by omega) ?_) | refine Chk.mk (ptr_ok tblOk rfl rfl) ?_)
        refine BrG.eqt (by cases wantS B ps k <;> simp) ?_
        repeat (first | refine SemW.run tblOk ?_ | refine IntG.nw (by omega) ?_ | refine IntG.nu8 (by omega) ?_ | refine IntG.nu32 (by omega) ?_ | refine IntG.nu64 (by omega) ?_ | refine IntG.wr' rfl ?_ | refine Chk.mk (by omega) ?_ | (refine BrG.id ?_; first | with_reducible refine BrG.t ?_ | with_reducible refine BrG.f ?_ | with_reducible refine BrG.notG ?_ | with_reducible refine BrG.nn ?_ | with_reducible refine BrG.ns ?_ | refine BrG.pos (by omega) ?_ | refine BrG.neg (by omega) ?_) | refine Chk.mk (ptr_ok tblOk rfl rfl) ?_)
        refine ⟨k + 1, ⟨rfl, rfl, rfl, (by rw [hne]; rfl), (by rw [hne]; rfl), rfl, rfl, rfl, trivial⟩, ⟨by omega, L3, hF, hS⟩, by omega⟩
      | false =>
        rw [hbk] at hgB hne
        rintro v w8 ⟨hv, L3, hF, hS'⟩
        have hv : v = .int .i64 0 := hv
        subst hv
        have hS := (hS.call (L := L2) hS').sub (List.sublist_cons_self _ _)
        have hS : St w [] ((mb, .map es c) :: L3) _ := hS
        have hfF : findM (spM K (wantS B ps (k + 1)) (k + 1)) nX = ((((wantS B ps (k + 1)).getD []), 0), if (wantS B ps (k + 1)).isSome then 0 else 5) := by
          unfold findM
          rw [if_neg (by simp [spM]), show fget (spM K (wantS B ps (k + 1)) (k + 1)) nX = (wantS B ps (k + 1)).map fun x => (x, 0) from fget_fileL _ _ _ _ _]
          cases wantS B ps (k + 1) <;> rfl
        repeat (first | refine SemW.run tblOk ?_ | refine IntG.nw (by omega) ?_ | refine IntG.nu8 (by omega) ?_ | refine IntG.nu32 (by omega) ?_ | refine IntG.nu64 (by omega) ?_ | refine IntG.wr' rfl ?_ | refine Chk.mk (by omega) ?_ | (refine BrG.id ?_; first | with_reducible refine BrG.t ?_ | with_reducible refine BrG.f ?_ | with_reducible refine BrG.notG ?_ | with_reducible refine BrG.nn ?_ | with_reducible refine BrG.ns ?_ | refine BrG.pos (by omega) ?_ | refine BrG.neg (by omega) ?_) | refine Chk.mk (ptr_ok tblOk rfl rfl) ?_)
        refine lookupMap tblOk KEnc.i64 rfl rfl und_int rfl (kvs := kvs) (fun w'' hw' => ⟨es, c, by subst hw'; exact hS.mem (b := mb), hm.of⟩) ?_
        simp only [hgB]
        refine Chk.mk (und_of tblOk (t := T_bool) rfl) ?_
        repeat (first | refine SemW.run tblOk ?_ | refine IntG.nw (by omega) ?_ | refine IntG.nu8 (by omega) ?_ | refine IntG.nu32 (by omega) ?_ | refine IntG.nu64 (by omega) ?_ | refine IntG.wr' rfl ?_ | refine Chk.mk (by omega) ?_ | (refine BrG.id ?_; first | with_reducible refine BrG.t ?_ | with_reducible refine BrG.f ?_ | with_reducible refine BrG.notG ?_ | with_reducible refine BrG.nn ?_ | with_reducible refine BrG.ns ?_ | refine BrG.pos (by omega) ?_ | refine BrG.neg (by omega) ?_) | refine Chk.mk (ptr_ok tblOk rfl rfl) ?_)
        refine BrG.eqt (by simp) ?_
        repeat (first | refine SemW.run tblOk ?_ | refine IntG.nw (by omega) ?_ | refine IntG.nu8 (by omega) ?_ | refine IntG.nu32 (by omega) ?_ | refine IntG.nu64 (by omega) ?_ | refine IntG.wr' rfl ?_ | refine Chk.mk (by omega) ?_ | (refine BrG.id ?_; first | with_reducible refine BrG.t ?_ | with_reducible refine BrG.f ?_ | with_reducible refine BrG.notG ?_ | with_reducible refine BrG.nn ?_ | with_reducible refine BrG.ns ?_ | refine BrG.pos (by omega) ?_ | refine BrG.neg (by omega) ?_) | refine Chk.mk (ptr_ok tblOk rfl rfl) ?_)
        refine (Read_spec hF (hS.part (L := L3)) nX).mono ?_
        rw [hfF, hne]
        rintro _ w9 ⟨rfl, hS'⟩
        have hS := hS.call (L := L3) hS'
        repeat (first | refine SemW.run tblOk ?_ | refine IntG.nw (by omega) ?_ | refine IntG.nu8 (by omega) ?_ | refine IntG.nu32 (by omega) ?_ | refine IntG.nu64 (by omega) ?_ | refine IntG.wr' rfl ?_ | refine Chk.mk (by omega) ?_ | (refine BrG.id ?_; first | with_reducible refine BrG.t ?_ | with_reducible refine BrG.f ?_ | with_reducible refine BrG.notG ?_ | with_reducible refine BrG.nn ?_ | with_reducible refine BrG.ns ?_ | refine BrG.pos (by omega) ?_ | refine BrG.neg (by omega) ?_) | refine Chk.mk (ptr_ok tblOk rfl rfl) ?_)
        refine BrG.pos rfl ?_
        repeat (first | refine SemW.run tblOk ?_ | refine IntG.nw (by omega) ?_ | refine IntG.nu8 (by omega) ?_ | refine IntG.nu32 (by omega) ?_ | refine IntG.nu64 (by omega) ?_ | refine IntG.wr' rfl ?_ | refine Chk.mk (by omega) ?_ | (refine BrG.id ?_; first | with_reducible refine BrG.t ?_ | with_reducible refine BrG.f ?_ | with_reducible refine BrG.notG ?_ | with_reducible refine BrG.nn ?_ | with_reducible refine BrG.ns ?_ | refine BrG.pos (by omega) ?_ | refine BrG.neg (by omega) ?_) | refine Chk.mk (ptr_ok tblOk rfl rfl) ?_)
        refine Chk.mk (und_of tblOk (t := T_bool) rfl) ?_
        repeat (first | refine SemW.run tblOk ?_ | refine IntG.nw (by omega) ?_ | refine IntG.nu8 (by omega) ?_ | refine IntG.nu32 (by omega) ?_ | refine IntG.nu64 (by omega) ?_ | refine IntG.wr' rfl ?_ | refine Chk.mk (by omega) ?_ | (refine BrG.id ?_; first | with_reducible refine BrG.t ?_ | with_reducible refine BrG.f ?_ | with_reducible refine BrG.notG ?_ | with_reducible refine BrG.nn ?_ | with_reducible refine BrG.ns ?_ | refine BrG.pos (by omega) ?_ | refine BrG.neg (by omega) ?_) | refine Chk.mk (ptr_ok tblOk rfl rfl) ?_)
        refine BrG.eqt (by cases wantS B ps k <;> simp) ?_
        repeat (first | refine SemW.run tblOk ?_ | refine IntG.nw (by omega) ?_ | refine IntG.nu8 (by omega) ?_ | refine IntG.nu32 (by omega) ?_ | refine IntG.nu64 (by omega) ?_ | refine IntG.wr' rfl ?_ | refine Chk.mk (by omega) ?_ | (refine BrG.id ?_; first | with_reducible refine BrG.t ?_ | with_reducible refine BrG.f ?_ | with_reducible refine BrG.notG ?_ | with_reducible refine BrG.nn ?_ | with_reducible refine BrG.ns ?_ | refine BrG.pos (by omega) ?_ | refine BrG.neg (by omega) ?_) | refine Chk.mk (ptr_ok tblOk rfl rfl) ?_)
        refine ⟨k + 1, ⟨rfl, rfl, rfl, (by rw [hne]; rfl), (by rw [hne]; rfl), rfl, rfl, rfl, trivial⟩, ⟨by omega, L3, hF, hS⟩, by omega⟩
    · have hke : k = ps.length := by omega
      subst hke
      repeat (first | refine SemW.run tblOk ?_ | refine IntG.nw (by omega) ?_ | refine IntG.nu8 (by omega) ?_ | refine IntG.nu32 (by omega) ?_ | refine IntG.nu64 (by omega) ?_ | refine IntG.wr' rfl ?_ | refine Chk.mk (by omega) ?_ | (refine BrG.id ?_; first | with_reducible refine BrG.t ?_ | with_reducible refine BrG.f ?_ | with_reducible refine BrG.notG ?_ | with_reducible refine BrG.nn ?_ | with_reducible refine BrG.ns ?_ | refine BrG.pos (by omega) ?_ | refine BrG.neg (by omega) ?_) | refine Chk.mk (ptr_ok tblOk rfl rfl) ?_)
      refine (Down_spec hF (hS.part (L := L2))).mono ?_
      rw [show (spM K (wantS B ps ps.length) ps.length).off = false from rfl]
      rintro _ w7 ⟨rfl, hS'⟩
      have hS := hS.call (L := L2) hS'
      repeat (first | refine SemW.run tblOk ?_ | refine IntG.nw (by omega) ?_ | refine IntG.nu8 (by omega) ?_ | refine IntG.nu32 (by omega) ?_ | refine IntG.nu64 (by omega) ?_ | refine IntG.wr' rfl ?_ | refine Chk.mk (by omega) ?_ | (refine BrG.id ?_; first | with_reducible refine BrG.t ?_ | with_reducible refine BrG.f ?_ | with_reducible refine BrG.notG ?_ | with_reducible refine BrG.nn ?_ | with_reducible refine BrG.ns ?_ | refine BrG.pos (by omega) ?_ | refine BrG.neg (by omega) ?_) | refine Chk.mk (ptr_ok tblOk rfl rfl) ?_)
      refine (Acts_spec hF (hS.part (L := L2))).mono ?_
      rintro _ w8 ⟨rfl, hS'⟩
      have hS := hS.call (L := L2) hS'
      repeat (first | refine SemW.run tblOk ?_ | refine IntG.nw (by omega) ?_ | refine IntG.nu8 (by omega) ?_ | refine IntG.nu32 (by omega) ?_ | refine IntG.nu64 (by omega) ?_ | refine IntG.wr' rfl ?_ | refine Chk.mk (by omega) ?_ | (refine BrG.id ?_; first | with_reducible refine BrG.t ?_ | with_reducible refine BrG.f ?_ | with_reducible refine BrG.notG ?_ | with_reducible refine BrG.nn ?_ | with_reducible refine BrG.ns ?_ | refine BrG.pos (by omega) ?_ | refine BrG.neg (by omega) ?_) | refine Chk.mk (ptr_ok tblOk rfl rfl) ?_)
      exact ⟨congrArg Value.bool (decide_eq_true rfl), hS.nil⟩
end Go.Proofs.Ytnmmiiffeenjbaa
