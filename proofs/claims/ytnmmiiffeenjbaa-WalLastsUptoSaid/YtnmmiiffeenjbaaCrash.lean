/- vfs.FS.Crash. -/
import Derived.Test.YtnmmiiffeenjbaaNames
namespace Go.Proofs.Ytnmmiiffeenjbaa
open Go Go.Eng Go.Proofs

def fileOf (files : List (Bytes × (Bytes × Nat))) (n : Bytes) : Bytes × Nat := (kget n files).getD ([], 0)
/-- How many letters beyond what is synced stay of the k-th file. -/
def keepOf (x : Bytes × Nat) (cuts : List Int) (k : Nat) : Nat := if k < cuts.length then min (cuts.getD k 0).toNat (x.1.length - x.2) else 0
def cutFile (x : Bytes × Nat) (j : Nat) : Bytes × Nat := (x.1.take (x.2 + j), x.2 + j)
def crashF (files : List (Bytes × (Bytes × Nat))) (ns : List Bytes) (cuts : List Int) : Nat → List (Bytes × (Bytes × Nat))
  | 0 => []
  | k + 1 => kput (ns.getD k []) (cutFile (fileOf files (ns.getD k [])) (keepOf (fileOf files (ns.getD k [])) cuts k)) (crashF files ns cuts k)
theorem keepOf_le (x : Bytes × Nat) (cuts : List Int) (k : Nat) : keepOf x cuts k ≤ x.1.length - x.2 := by
  unfold keepOf; split <;> omega


set_option maxHeartbeats 2000000 in
theorem Crash_spec {w : World} {b : Nat} {m : FSm} {L : Heap} (hF : FSo b m L) (hh : Holds L w) {a : Option Addr} {cap : Nat} {cuts : List Int} (ha : Arr w (keys L) a (cuts.map intV)) (hcl : cuts.length ≤ 1099511627776)
    (hl : m.files.length ≤ 1099511627776) (hs : ∀ x ∈ m.files, x.1.length ≤ maxLen) (hsy : ∀ n, (fileOf m.files n).2 ≤ (fileOf m.files n).1.length) (htl : ∀ n, (fileOf m.files n).1.length ≤ 1099511627776) :
    Cl Try.prog f_vfs_FS_Crash [ptr b, .slice a cuts.length cap] w fun v w' => ∃ (ns : List Bytes) (g : Nat) (Lg : Heap), ns.Perm (m.files.map (·.1)) ∧ v = ptr g ∧ FSo g ⟨crashF m.files ns cuts ns.length, [], 0, 0, false⟩ Lg ∧ St w (keys L) (Lg ++ L) w' := by
  have hS := St.enter hh
  refine en_vfs_FS_Crash rfl ?_
  repeat (first | refine SemW.run tblOk ?_ | refine IntG.nw (by omega) ?_ | refine IntG.nu8 (by omega) ?_ | refine IntG.nu32 (by omega) ?_ | refine IntG.nu64 (by omega) ?_ | refine IntG.wr' rfl ?_ | refine Chk.mk (by omega) ?_ | (refine BrG.id ?_; first | with_reducible refine BrG.t ?_ | with_reducible refine BrG.f ?_ | with_reducible refine BrG.notG ?_ | with_reducible refine BrG.nn ?_ | with_reducible refine BrG.ns ?_ | refine BrG.pos (by omega) ?_ | refine BrG.neg (by omega) ?_) | refine Chk.mk (ptr_ok tblOk rfl rfl) ?_)
  refine New_spec.mono ?_
  rintro _ w1 ⟨g, Lg, rfl, hg, hFg, hS'⟩
  have hS := hS.callNew hS'
  repeat (first | refine SemW.run tblOk ?_ | refine IntG.nw (by omega) ?_ | refine IntG.nu8 (by omega) ?_ | refine IntG.nu32 (by omega) ?_ | refine IntG.nu64 (by omega) ?_ | refine IntG.wr' rfl ?_ | refine Chk.mk (by omega) ?_ | (refine BrG.id ?_; first | with_reducible refine BrG.t ?_ | with_reducible refine BrG.f ?_ | with_reducible refine BrG.notG ?_ | with_reducible refine BrG.nn ?_ | with_reducible refine BrG.ns ?_ | refine BrG.pos (by omega) ?_ | refine BrG.neg (by omega) ?_) | refine Chk.mk (ptr_ok tblOk rfl rfl) ?_)
  refine (names_spec hF (hS.part (L := L)) hl hs).mono ?_
  rintro _ w2 ⟨ns, an, capn, Lv, hp, rfl, hv, hS'⟩
  have hS := hS.call (L := L) hS'
  have hnl : ns.length = m.files.length := by have := hp.length_eq; simpa using this
  generalize hT : keys L = T0 at hS ha ⊢
  obtain ⟨mf, es, c, hes, ft, Lf, hf⟩ := hF
  repeat (first | refine SemW.run tblOk ?_ | refine IntG.nw (by omega) ?_ | refine IntG.nu8 (by omega) ?_ | refine IntG.nu32 (by omega) ?_ | refine IntG.nu64 (by omega) ?_ | refine IntG.wr' rfl ?_ | refine Chk.mk (by omega) ?_ | (refine BrG.id ?_; first | with_reducible refine BrG.t ?_ | with_reducible refine BrG.f ?_ | with_reducible refine BrG.notG ?_ | with_reducible refine BrG.nn ?_ | with_reducible refine BrG.ns ?_ | refine BrG.pos (by omega) ?_ | refine BrG.neg (by omega) ?_) | refine Chk.mk (ptr_ok tblOk rfl rfl) ?_)
  refine SemW.loop (fun k : Nat => [(0, ptr b), (1, .slice a cuts.length cap), (5, ptr g), (13, .slice an ns.length capn), (14, .int .i64 ns.length), (15, .int .i64 k)])
    (fun k w' => k ≤ ns.length ∧ ∃ Lg, FSo g ⟨crashF m.files ns cuts k, [], 0, 0, false⟩ Lg ∧ St w T0 (Lg ++ (Lv ++ (b, .cells ⟨[.map ft, .int .i64 m.armed, .int .i64 m.acts, .bool m.off, .map (some mf)]⟩ T_vfs_FS (0, 0)) :: (mf, .map es c) :: Lf)) w') (fun k => ns.length - k) 0
    ⟨rfl, rfl, rfl, rfl, rfl, rfl, trivial⟩ ⟨Nat.zero_le _, Lg, hFg, hS⟩ ?_
  rintro k w3 ⟨hk, Lg, hFg, hS⟩
  by_cases hkl : k < ns.length
  · obtain ⟨gv, lv, rfl, hvx, hvl, hvn, rfl⟩ : ∃ g l, an = some ⟨g, 0, none⟩ ∧ (ns.map Str).length = ns.length * 1 ∧ (ns.map Str).length + l.length = capn * 1 ∧ ns.length ≤ capn ∧ Lv = [(g, .cells ⟨ns.map Str ++ l⟩ T_string (0, 0))] := by
      rcases hv.inv with ⟨_, h, _⟩ | h
      · omega
      · exact h
    obtain ⟨mg, eg, cg, heg, fg, Lfg, hfg⟩ := hFg
    have hS : St w T0 (((g, .cells ⟨[.map fg, .int .i64 (0 : Nat), .int .i64 (0 : Nat), .bool false, .map (some mg)]⟩ T_vfs_FS (0, 0)) :: (mg, .map eg cg) :: Lfg) ++ ((gv, .cells ⟨ns.map Str ++ lv⟩ T_string (0, 0)) :: (b, .cells ⟨[.map ft, .int .i64 m.armed, .int .i64 m.acts, .bool m.off, .map (some mf)]⟩ T_vfs_FS (0, 0)) :: (mf, .map es c) :: Lf)) w3 := hS
    repeat (first | refine SemW.run tblOk ?_ | refine IntG.nw (by omega) ?_ | refine IntG.nu8 (by omega) ?_ | refine IntG.nu32 (by omega) ?_ | refine IntG.nu64 (by omega) ?_ | refine IntG.wr' rfl ?_ | refine Chk.mk (by omega) ?_ | (refine BrG.id ?_; first | with_reducible refine BrG.t ?_ | with_reducible refine BrG.f ?_ | with_reducible refine BrG.notG ?_ | with_reducible refine BrG.nn ?_ | with_reducible refine BrG.ns ?_ | refine BrG.pos (by omega) ?_ | refine BrG.neg (by omega) ?_) | refine Chk.mk (ptr_ok tblOk rfl rfl) ?_)
    refine hS.ld (v := Str ns[k]) (by simp [List.getElem?_append, hkl]) ?_
    have hgd : ns.getD k [] = ns[k] := by simp [hkl]
    repeat (first | refine SemW.run tblOk ?_ | refine IntG.nw (by omega) ?_ | refine IntG.nu8 (by omega) ?_ | refine IntG.nu32 (by omega) ?_ | refine IntG.nu64 (by omega) ?_ | refine IntG.wr' rfl ?_ | refine Chk.mk (by omega) ?_ | (refine BrG.id ?_; first | with_reducible refine BrG.t ?_ | with_reducible refine BrG.f ?_ | with_reducible refine BrG.notG ?_ | with_reducible refine BrG.nn ?_ | with_reducible refine BrG.ns ?_ | refine BrG.pos (by omega) ?_ | refine BrG.neg (by omega) ?_) | refine Chk.mk (ptr_ok tblOk rfl rfl) ?_ | refine hS.ld rfl ?_ | refine hS.ldn rfl ?_ | (refine hS.st rfl rfl ?_; intro _ hS))
    refine lookupFile (fun w' hw' => ⟨es, c, by subst hw'; exact hS.mem (b := mf), hes.of⟩) ?_
    have hx1 := hsy ns[k]
    have hx2 := htl ns[k]
    have hkp := keepOf_le (fileOf m.files ns[k]) cuts k
    have hcf : crashF m.files ns cuts (k + 1) = kput ns[k] (cutFile (fileOf m.files ns[k]) (keepOf (fileOf m.files ns[k]) cuts k)) (crashF m.files ns cuts k) := by
      simp only [crashF, hgd]
    rw [show (kget ns[k] m.files).getD ([], 0) = fileOf m.files ns[k] from rfl]
    generalize fileOf m.files ns[k] = x at hx1 hx2 hkp hcf ⊢
    obtain ⟨t, s⟩ := x
    simp only at hx1 hx2 hkp
    refine hS.al ?_
    intro r w4 _ hS
    repeat (first | refine SemW.run tblOk ?_ | refine IntG.nw (by omega) ?_ | refine IntG.nu8 (by omega) ?_ | refine IntG.nu32 (by omega) ?_ | refine IntG.nu64 (by omega) ?_ | refine IntG.wr' rfl ?_ | refine Chk.mk (by omega) ?_ | (refine BrG.id ?_; first | with_reducible refine BrG.t ?_ | with_reducible refine BrG.f ?_ | with_reducible refine BrG.notG ?_ | with_reducible refine BrG.nn ?_ | with_reducible refine BrG.ns ?_ | refine BrG.pos (by omega) ?_ | refine BrG.neg (by omega) ?_) | refine Chk.mk (ptr_ok tblOk rfl rfl) ?_ | refine hS.ld rfl ?_ | refine hS.ldn rfl ?_ | (refine hS.st rfl rfl ?_; intro _ hS))
    have hS : St w T0 ((r, .cells ⟨[Str t, .int .i64 s]⟩ T_vfs_file (0, 0)) :: (((g, .cells ⟨[.map fg, .int .i64 (0 : Nat), .int .i64 (0 : Nat), .bool false, .map (some mg)]⟩ T_vfs_FS (0, 0)) :: (mg, .map eg cg) :: Lfg) ++ ((gv, .cells ⟨ns.map Str ++ lv⟩ T_string (0, 0)) :: (b, .cells ⟨[.map ft, .int .i64 m.armed, .int .i64 m.acts, .bool m.off, .map (some mf)]⟩ T_vfs_FS (0, 0)) :: (mf, .map es c) :: Lf))) _ := hS
    by_cases hkc : k < cuts.length
    · obtain ⟨bc, offc, rfl, hbc, hcc⟩ := ha.get (j := k) (by simp; omega)
      simp only [List.getElem_map] at hcc
      repeat (first | refine SemW.run tblOk ?_ | refine IntG.nw (by omega) ?_ | refine IntG.nu8 (by omega) ?_ | refine IntG.nu32 (by omega) ?_ | refine IntG.nu64 (by omega) ?_ | refine IntG.wr' rfl ?_ | refine Chk.mk (by omega) ?_ | (refine BrG.id ?_; first | with_reducible refine BrG.t ?_ | with_reducible refine BrG.f ?_ | with_reducible refine BrG.notG ?_ | with_reducible refine BrG.nn ?_ | with_reducible refine BrG.ns ?_ | refine BrG.pos (by omega) ?_ | refine BrG.neg (by omega) ?_) | refine Chk.mk (ptr_ok tblOk rfl rfl) ?_)
      refine SemW.draw tblOk mixed (fun w' => St w T0 ((r, .cells ⟨[Str t, .int .i64 s]⟩ T_vfs_file (0, 0)) :: (((g, .cells ⟨[.map fg, .int .i64 (0 : Nat), .int .i64 (0 : Nat), .bool false, .map (some mg)]⟩ T_vfs_FS (0, 0)) :: (mg, .map eg cg) :: Lfg) ++ ((gv, .cells ⟨ns.map Str ++ lv⟩ T_string (0, 0)) :: (b, .cells ⟨[.map ft, .int .i64 m.armed, .int .i64 m.acts, .bool m.off, .map (some mf)]⟩ T_vfs_FS (0, 0)) :: (mf, .map es c) :: Lf))) w')
        [] [0, 1, 2, 3, 4, 5, 6, 7, 8, 9, 10, 11, 12] (by kernel_rfl) hS.drew ?_
      have hS := hS.drew
      repeat (first | refine SemW.run tblOk ?_ | refine IntG.nw (by omega) ?_ | refine IntG.nu8 (by omega) ?_ | refine IntG.nu32 (by omega) ?_ | refine IntG.nu64 (by omega) ?_ | refine IntG.wr' rfl ?_ | refine Chk.mk (by omega) ?_ | (refine BrG.id ?_; first | with_reducible refine BrG.t ?_ | with_reducible refine BrG.f ?_ | with_reducible refine BrG.notG ?_ | with_reducible refine BrG.nn ?_ | with_reducible refine BrG.ns ?_ | refine BrG.pos (by omega) ?_ | refine BrG.neg (by omega) ?_) | refine Chk.mk (ptr_ok tblOk rfl rfl) ?_ | refine hS.ldC rfl ?_ | refine hS.ldnC rfl ?_)
      refine hS.ldOldC hbc (by simpa using hcc) ?_
      repeat (first | refine SemW.run tblOk ?_ | refine IntG.nw (by omega) ?_ | refine IntG.nu8 (by omega) ?_ | refine IntG.nu32 (by omega) ?_ | refine IntG.nu64 (by omega) ?_ | refine IntG.wr' rfl ?_ | refine Chk.mk (by omega) ?_ | (refine BrG.id ?_; first | with_reducible refine BrG.t ?_ | with_reducible refine BrG.f ?_ | with_reducible refine BrG.notG ?_ | with_reducible refine BrG.nn ?_ | with_reducible refine BrG.ns ?_ | refine BrG.pos (by omega) ?_ | refine BrG.neg (by omega) ?_) | refine Chk.mk (ptr_ok tblOk rfl rfl) ?_ | refine hS.ldC rfl ?_ | refine hS.ldnC rfl ?_)
      generalize hz : (if (t.length : Int) - s < (if cuts[k] < 0 then 0 else cuts[k]) then (t.length : Int) - s else (if cuts[k] < 0 then 0 else cuts[k])) = z
      have hze : z = (keepOf (t, s) cuts k : Int) := by
        rw [← hz]; unfold keepOf; rw [if_pos hkc]
        have : cuts.getD k 0 = cuts[k] := by simp [hkc]
        rw [this]
        simp only
        split <;> split <;> omega
      subst hze
      generalize keepOf (t, s) cuts k = j at hkp hcf ⊢
      repeat (first | refine SemW.run tblOk ?_ | refine IntG.nw (by omega) ?_ | refine IntG.nu8 (by omega) ?_ | refine IntG.nu32 (by omega) ?_ | refine IntG.nu64 (by omega) ?_ | refine IntG.wr' rfl ?_ | refine Chk.mk (by omega) ?_ | (refine BrG.id ?_; first | with_reducible refine BrG.t ?_ | with_reducible refine BrG.f ?_ | with_reducible refine BrG.notG ?_ | with_reducible refine BrG.nn ?_ | with_reducible refine BrG.ns ?_ | refine BrG.pos (by omega) ?_ | refine BrG.neg (by omega) ?_) | refine Chk.mk (ptr_ok tblOk rfl rfl) ?_ | refine hS.ld rfl ?_ | refine hS.ldn rfl ?_ | (refine hS.st rfl rfl ?_; intro _ hS))
      refine SemW.draw tblOk mixed (fun w' => St w T0 ((r, .cells ⟨[Str t, .int .i64 s]⟩ T_vfs_file (0, 0)) :: (((g, .cells ⟨[.map fg, .int .i64 (0 : Nat), .int .i64 (0 : Nat), .bool false, .map (some mg)]⟩ T_vfs_FS (0, 0)) :: (mg, .map eg cg) :: Lfg) ++ ((gv, .cells ⟨ns.map Str ++ lv⟩ T_string (0, 0)) :: (b, .cells ⟨[.map ft, .int .i64 m.armed, .int .i64 m.acts, .bool m.off, .map (some mf)]⟩ T_vfs_FS (0, 0)) :: (mf, .map es c) :: Lf))) w')
        [11] [0, 1, 2, 3, 4, 5, 6, 7, 8, 9, 10, 11] (by kernel_rfl) hS.drew ?_
      have hS := hS.drew
      repeat (first | refine SemW.run tblOk ?_ | refine IntG.nw (by omega) ?_ | refine IntG.nu8 (by omega) ?_ | refine IntG.nu32 (by omega) ?_ | refine IntG.nu64 (by omega) ?_ | refine IntG.wr' rfl ?_ | refine Chk.mk (by omega) ?_ | (refine BrG.id ?_; first | with_reducible refine BrG.t ?_ | with_reducible refine BrG.f ?_ | with_reducible refine BrG.notG ?_ | with_reducible refine BrG.nn ?_ | with_reducible refine BrG.ns ?_ | refine BrG.pos (by omega) ?_ | refine BrG.neg (by omega) ?_) | refine Chk.mk (ptr_ok tblOk rfl rfl) ?_ | refine hS.ldC rfl ?_ | refine hS.ldnC rfl ?_)
      refine St.mapSet tblOk KEnc.str rfl rfl und_str hS (v := cutFile (t, s) j) heg ?_
      intro es2 c2 w6 hes2 hS
      have hS := hS.sub (List.sublist_cons_self _ _)
      repeat (first | refine SemW.run tblOk ?_ | refine IntG.nw (by omega) ?_ | refine IntG.nu8 (by omega) ?_ | refine IntG.nu32 (by omega) ?_ | refine IntG.nu64 (by omega) ?_ | refine IntG.wr' rfl ?_ | refine Chk.mk (by omega) ?_ | (refine BrG.id ?_; first | with_reducible refine BrG.t ?_ | with_reducible refine BrG.f ?_ | with_reducible refine BrG.notG ?_ | with_reducible refine BrG.nn ?_ | with_reducible refine BrG.ns ?_ | refine BrG.pos (by omega) ?_ | refine BrG.neg (by omega) ?_) | refine Chk.mk (ptr_ok tblOk rfl rfl) ?_)
      refine ⟨k + 1, ⟨rfl, rfl, rfl, rfl, rfl, rfl, trivial⟩, ⟨by omega, _, FSo.mk (m := ⟨crashF m.files ns cuts (k + 1), [], 0, 0, false⟩) mg es2 c2 (by rw [hcf]; exact hes2) fg Lfg hfg, hS⟩, by omega⟩
    · have hke : keepOf (t, s) cuts k = 0 := by unfold keepOf; rw [if_neg hkc]
      rw [hke] at hcf
      repeat (first | refine SemW.run tblOk ?_ | refine IntG.nw (by omega) ?_ | refine IntG.nu8 (by omega) ?_ | refine IntG.nu32 (by omega) ?_ | refine IntG.nu64 (by omega) ?_ | refine IntG.wr' rfl ?_ | refine Chk.mk (by omega) ?_ | (refine BrG.id ?_; first | with_reducible refine BrG.t ?_ | with_reducible refine BrG.f ?_ | with_reducible refine BrG.notG ?_ | with_reducible refine BrG.nn ?_ | with_reducible refine BrG.ns ?_ | refine BrG.pos (by omega) ?_ | refine BrG.neg (by omega) ?_) | refine Chk.mk (ptr_ok tblOk rfl rfl) ?_ | refine hS.ld rfl ?_ | refine hS.ldn rfl ?_ | (refine hS.st rfl rfl ?_; intro _ hS))
      refine SemW.draw tblOk mixed (fun w' => St w T0 ((r, .cells ⟨[Str t, .int .i64 s]⟩ T_vfs_file (0, 0)) :: (((g, .cells ⟨[.map fg, .int .i64 (0 : Nat), .int .i64 (0 : Nat), .bool false, .map (some mg)]⟩ T_vfs_FS (0, 0)) :: (mg, .map eg cg) :: Lfg) ++ ((gv, .cells ⟨ns.map Str ++ lv⟩ T_string (0, 0)) :: (b, .cells ⟨[.map ft, .int .i64 m.armed, .int .i64 m.acts, .bool m.off, .map (some mf)]⟩ T_vfs_FS (0, 0)) :: (mf, .map es c) :: Lf))) w')
        [11] [0, 1, 2, 3, 4, 5, 6, 7, 8, 9, 10, 11] (by kernel_rfl) hS.drew ?_
      have hS := hS.drew
      repeat (first | refine SemW.run tblOk ?_ | refine IntG.nw (by omega) ?_ | refine IntG.nu8 (by omega) ?_ | refine IntG.nu32 (by omega) ?_ | refine IntG.nu64 (by omega) ?_ | refine IntG.wr' rfl ?_ | refine Chk.mk (by omega) ?_ | (refine BrG.id ?_; first | with_reducible refine BrG.t ?_ | with_reducible refine BrG.f ?_ | with_reducible refine BrG.notG ?_ | with_reducible refine BrG.nn ?_ | with_reducible refine BrG.ns ?_ | refine BrG.pos (by omega) ?_ | refine BrG.neg (by omega) ?_) | refine Chk.mk (ptr_ok tblOk rfl rfl) ?_ | refine hS.ldC rfl ?_ | refine hS.ldnC rfl ?_)
      refine St.mapSet tblOk KEnc.str rfl rfl und_str hS (v := cutFile (t, s) 0) heg ?_
      intro es2 c2 w6 hes2 hS
      have hS := hS.sub (List.sublist_cons_self _ _)
      repeat (first | refine SemW.run tblOk ?_ | refine IntG.nw (by omega) ?_ | refine IntG.nu8 (by omega) ?_ | refine IntG.nu32 (by omega) ?_ | refine IntG.nu64 (by omega) ?_ | refine IntG.wr' rfl ?_ | refine Chk.mk (by omega) ?_ | (refine BrG.id ?_; first | with_reducible refine BrG.t ?_ | with_reducible refine BrG.f ?_ | with_reducible refine BrG.notG ?_ | with_reducible refine BrG.nn ?_ | with_reducible refine BrG.ns ?_ | refine BrG.pos (by omega) ?_ | refine BrG.neg (by omega) ?_) | refine Chk.mk (ptr_ok tblOk rfl rfl) ?_)
      refine ⟨k + 1, ⟨rfl, rfl, rfl, rfl, rfl, rfl, trivial⟩, ⟨by omega, _, FSo.mk (m := ⟨crashF m.files ns cuts (k + 1), [], 0, 0, false⟩) mg es2 c2 (by rw [hcf]; exact hes2) fg Lfg hfg, hS⟩, by omega⟩
  · have hke : k = ns.length := by omega
    subst hke
    repeat (first | refine SemW.run tblOk ?_ | refine IntG.nw (by omega) ?_ | refine IntG.nu8 (by omega) ?_ | refine IntG.nu32 (by omega) ?_ | refine IntG.nu64 (by omega) ?_ | refine IntG.wr' rfl ?_ | refine Chk.mk (by omega) ?_ | (refine BrG.id ?_; first | with_reducible refine BrG.t ?_ | with_reducible refine BrG.f ?_ | with_reducible refine BrG.notG ?_ | with_reducible refine BrG.nn ?_ | with_reducible refine BrG.ns ?_ | refine BrG.pos (by omega) ?_ | refine BrG.neg (by omega) ?_) | refine Chk.mk (ptr_ok tblOk rfl rfl) ?_)
    exact ⟨ns, g, Lg, hp, rfl, hFg, hS.sub (List.Sublist.append (List.Sublist.refl _) (List.sublist_append_right _ _))⟩
end Go.Proofs.Ytnmmiiffeenjbaa
