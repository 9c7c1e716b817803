/- vfs.power.Arm. -/
import Derived.Test.YtnmmiiffeenjbaaMoves
namespace Go.Proofs.Ytnmmiiffeenjbaa
open Go Go.Eng Go.Proofs

/-- The fates as a map: the first kind of each place; kinds outside 1 to 3 are passed by. -/
def armK (fs : List (Int × Int)) : Nat → List (Int × Int)
  | 0 => []
  | k + 1 => if (fs.getD k (0, 0)).2 < 1 ∨ 3 < (fs.getD k (0, 0)).2 ∨ (kget (fs.getD k (0, 0)).1 (armK fs k)).getD 0 ≠ 0 then armK fs k else kput (fs.getD k (0, 0)).1 (fs.getD k (0, 0)).2 (armK fs k)
def fateC (fs : List (Int × Int)) : List Value := fs.flatMap fun x => [intV x.1, intV x.2]
theorem fateC_get (fs : List (Int × Int)) (k : Nat) (hk : k < fs.length) : (fateC fs)[k * 2]? = some (intV fs[k].1) ∧ (fateC fs)[k * 2 + 1]? = some (intV fs[k].2) := by
  induction fs generalizing k with
  | nil => simp at hk
  | cons x r ih =>
    cases k with
    | zero => simp [fateC]
    | succ k =>
      have h := ih k (by simpa using hk)
      have e : fateC (x :: r) = intV x.1 :: intV x.2 :: fateC r := by simp [fateC]
      rw [e, show (k + 1) * 2 = k * 2 + 2 by omega]
      simpa using h
theorem ldOld2 {w0 w : World} {T : List Nat} {H : Heap} (hS : St w0 T H w) {b off : Nat} (hb : b ∉ T) {u v : Value} (h0 : w0.cell? ⟨b, off, none⟩ = some u) (h1 : w0.cell? ⟨b, off + 1, none⟩ = some v) {K : List Value → Prop} (hk : K [u, v]) :
    LdN (fun w' => w = w') 2 b off K := by
  refine ⟨⟨[u, v], rfl, fun _ e j x hj => ?_, hk⟩⟩
  subst e
  match j, hj with
  | 0, hj => simp at hj; subst hj; exact hS.oldCell (a := ⟨b, off, none⟩) hb h0
  | 1, hj => simp at hj; subst hj; exact hS.oldCell (a := ⟨b, off + 1, none⟩) hb h1


set_option maxHeartbeats 2000000 in
theorem Arm_spec {w : World} {b : Nat} {m : FSm} {L : Heap} (hF : FSo b m L) (hh : Holds L w) {a : Option Addr} {cap : Nat} {fs : List (Int × Int)} (ha : Arr w (keys L) a (fateC fs)) (hl : fs.length ≤ 1099511627776) :
    Cl Try.prog f_vfs_power_Arm [ptr b, .slice a fs.length cap] w fun _ w' => ∃ L', FSo b { m with fates := armK fs fs.length, armed := 0 } L' ∧ St w (keys L) L' w' := by
  have hS := St.enter hh
  generalize hT : keys L = T0 at hS ha ⊢
  obtain ⟨mf, es, c, hes, ft, Lf, hf⟩ := hF
  refine en_vfs_power_Arm rfl ?_
  repeat (first | refine SemW.run tblOk ?_ | refine IntG.nw (by omega) ?_ | refine IntG.nu8 (by omega) ?_ | refine IntG.nu32 (by omega) ?_ | refine IntG.nu64 (by omega) ?_ | refine IntG.wr' rfl ?_ | refine Chk.mk (by omega) ?_ | (refine BrG.id ?_; first | with_reducible refine BrG.t ?_ | with_reducible refine BrG.f ?_ | with_reducible refine BrG.notG ?_ | with_reducible refine BrG.nn ?_ | with_reducible refine BrG.ns ?_ | refine BrG.pos (by omega) ?_ | refine BrG.neg (by omega) ?_) | refine Chk.mk (ptr_ok tblOk rfl rfl) ?_ | refine hS.ld rfl ?_ | refine hS.ldn rfl ?_ | (refine hS.st rfl rfl ?_; intro _ hS))
  refine hS.al ?_
  intro fm w1 _ hS
  repeat (first | refine SemW.run tblOk ?_ | refine IntG.nw (by omega) ?_ | refine IntG.nu8 (by omega) ?_ | refine IntG.nu32 (by omega) ?_ | refine IntG.nu64 (by omega) ?_ | refine IntG.wr' rfl ?_ | refine Chk.mk (by omega) ?_ | (refine BrG.id ?_; first | with_reducible refine BrG.t ?_ | with_reducible refine BrG.f ?_ | with_reducible refine BrG.notG ?_ | with_reducible refine BrG.nn ?_ | with_reducible refine BrG.ns ?_ | refine BrG.pos (by omega) ?_ | refine BrG.neg (by omega) ?_) | refine Chk.mk (ptr_ok tblOk rfl rfl) ?_ | refine hS.ld rfl ?_ | refine hS.ldn rfl ?_ | (refine hS.st rfl rfl ?_; intro _ hS))
  have hS : St w T0 ((fm, .map #[] 0) :: (b, .cells ⟨[.map (some fm), .int .i64 (0 : Nat), .int .i64 m.acts, .bool m.off, .map (some mf)]⟩ T_vfs_FS (0, 0)) :: (mf, .map es c) :: []) _ := hS.sub (((List.nil_sublist Lf).cons_cons _).cons_cons _ |>.cons_cons _)
  refine SemW.loop (fun k : Nat => [(0, ptr b), (13, .slice a fs.length cap), (14, .int .i64 fs.length), (15, .int .i64 k)])
    (fun k w' => k ≤ fs.length ∧ ∃ es' c', MapC intV intV es' c' (armK fs k) ∧ St w T0 ((fm, .map es' c') :: (b, .cells ⟨[.map (some fm), .int .i64 (0 : Nat), .int .i64 m.acts, .bool m.off, .map (some mf)]⟩ T_vfs_FS (0, 0)) :: (mf, .map es c) :: []) w') (fun k => fs.length - k) 0
    ⟨rfl, rfl, rfl, rfl, trivial⟩ ⟨Nat.zero_le _, #[], 0, ⟨rfl, by simp [Stamp]⟩, hS⟩ ?_
  rintro k w3 ⟨hk, es', c', hm, hS⟩
  by_cases hkl : k < fs.length
  · obtain ⟨hc0, hc1⟩ := fateC_get fs k hkl
    obtain ⟨bc, offc, rfl, hbc, hck0⟩ := ha _ _ hc0
    obtain ⟨bc', offc', heq, -, hck1⟩ := ha _ _ hc1
    obtain ⟨rfl, rfl⟩ : bc = bc' ∧ offc = offc' := by simpa using heq
    have hak : armK fs (k + 1) = if fs[k].2 < 1 ∨ 3 < fs[k].2 ∨ (kget fs[k].1 (armK fs k)).getD 0 ≠ 0 then armK fs k else kput fs[k].1 fs[k].2 (armK fs k) := by
      have : fs.getD k (0, 0) = fs[k] := by simp [hkl]
      simp only [armK, this]
    generalize armK fs k = A at hm hak
    generalize hA' : armK fs (k + 1) = A' at hak
    generalize fs[k] = x at hck0 hck1 hak
    obtain ⟨p, kd⟩ := x
    simp only at hck0 hck1 hak
    repeat (first | refine SemW.run tblOk ?_ | refine IntG.nw (by omega) ?_ | refine IntG.nu8 (by omega) ?_ | refine IntG.nu32 (by omega) ?_ | refine IntG.nu64 (by omega) ?_ | refine IntG.wr' rfl ?_ | refine Chk.mk (by omega) ?_ | (refine BrG.id ?_; first | with_reducible refine BrG.t ?_ | with_reducible refine BrG.f ?_ | with_reducible refine BrG.notG ?_ | with_reducible refine BrG.nn ?_ | with_reducible refine BrG.ns ?_ | refine BrG.pos (by omega) ?_ | refine BrG.neg (by omega) ?_) | refine Chk.mk (ptr_ok tblOk rfl rfl) ?_)
    refine ldOld2 hS hbc hck0 hck1 ?_
    repeat (first | refine SemW.run tblOk ?_ | refine IntG.nw (by omega) ?_ | refine IntG.nu8 (by omega) ?_ | refine IntG.nu32 (by omega) ?_ | refine IntG.nu64 (by omega) ?_ | refine IntG.wr' rfl ?_ | refine Chk.mk (by omega) ?_ | (refine BrG.id ?_; first | with_reducible refine BrG.t ?_ | with_reducible refine BrG.f ?_ | with_reducible refine BrG.notG ?_ | with_reducible refine BrG.nn ?_ | with_reducible refine BrG.ns ?_ | refine BrG.pos (by omega) ?_ | refine BrG.neg (by omega) ?_) | refine Chk.mk (ptr_ok tblOk rfl rfl) ?_)
    refine hS.al ?_
    intro r w4 _ hS
    repeat (first | refine SemW.run tblOk ?_ | refine IntG.nw (by omega) ?_ | refine IntG.nu8 (by omega) ?_ | refine IntG.nu32 (by omega) ?_ | refine IntG.nu64 (by omega) ?_ | refine IntG.wr' rfl ?_ | refine Chk.mk (by omega) ?_ | (refine BrG.id ?_; first | with_reducible refine BrG.t ?_ | with_reducible refine BrG.f ?_ | with_reducible refine BrG.notG ?_ | with_reducible refine BrG.nn ?_ | with_reducible refine BrG.ns ?_ | refine BrG.pos (by omega) ?_ | refine BrG.neg (by omega) ?_) | refine Chk.mk (ptr_ok tblOk rfl rfl) ?_ | refine hS.ld rfl ?_ | refine hS.ldn rfl ?_ | (refine hS.st rfl rfl ?_; intro _ hS))
    have hS : St w T0 ((r, .cells ⟨[intV p, intV kd]⟩ T_api_Fate (0, 0)) :: (fm, .map es' c') :: (b, .cells ⟨[.map (some fm), .int .i64 (0 : Nat), .int .i64 m.acts, .bool m.off, .map (some mf)]⟩ T_vfs_FS (0, 0)) :: (mf, .map es c) :: []) _ := hS
    refine SemW.draw tblOk mixed (fun w' => St w T0 ((r, .cells ⟨[intV p, intV kd]⟩ T_api_Fate (0, 0)) :: (fm, .map es' c') :: (b, .cells ⟨[.map (some fm), .int .i64 (0 : Nat), .int .i64 m.acts, .bool m.off, .map (some mf)]⟩ T_vfs_FS (0, 0)) :: (mf, .map es c) :: []) w')
      [] [0, 1, 2, 3, 4, 5, 6, 7, 8, 9, 10, 11, 12, 13, 14, 15, 16, 17] (by kernel_rfl) hS.drew ?_
    have hS := hS.drew
    by_cases h1 : kd < 1
    · repeat (first | refine SemW.run tblOk ?_ | refine IntG.nw (by omega) ?_ | refine IntG.nu8 (by omega) ?_ | refine IntG.nu32 (by omega) ?_ | refine IntG.nu64 (by omega) ?_ | refine IntG.wr' rfl ?_ | refine Chk.mk (by omega) ?_ | (refine BrG.id ?_; first | with_reducible refine BrG.t ?_ | with_reducible refine BrG.f ?_ | with_reducible refine BrG.notG ?_ | with_reducible refine BrG.nn ?_ | with_reducible refine BrG.ns ?_ | refine BrG.pos (by omega) ?_ | refine BrG.neg (by omega) ?_) | refine Chk.mk (ptr_ok tblOk rfl rfl) ?_ | refine hS.ldC rfl ?_ | refine hS.ldnC rfl ?_)
      refine ⟨k + 1, ⟨rfl, rfl, rfl, rfl, trivial⟩, ⟨by omega, es', c', by rw [hA', hak, if_pos (.inl h1)]; exact hm, hS.sub (List.sublist_cons_self _ _)⟩, by omega⟩
    · by_cases h3 : 3 < kd
      · repeat (first | refine SemW.run tblOk ?_ | refine IntG.nw (by omega) ?_ | refine IntG.nu8 (by omega) ?_ | refine IntG.nu32 (by omega) ?_ | refine IntG.nu64 (by omega) ?_ | refine IntG.wr' rfl ?_ | refine Chk.mk (by omega) ?_ | (refine BrG.id ?_; first | with_reducible refine BrG.t ?_ | with_reducible refine BrG.f ?_ | with_reducible refine BrG.notG ?_ | with_reducible refine BrG.nn ?_ | with_reducible refine BrG.ns ?_ | refine BrG.pos (by omega) ?_ | refine BrG.neg (by omega) ?_) | refine Chk.mk (ptr_ok tblOk rfl rfl) ?_ | refine hS.ldC rfl ?_ | refine hS.ldnC rfl ?_)
        refine ⟨k + 1, ⟨rfl, rfl, rfl, rfl, trivial⟩, ⟨by omega, es', c', by rw [hA', hak, if_pos (.inr (.inl h3))]; exact hm, hS.sub (List.sublist_cons_self _ _)⟩, by omega⟩
      · repeat (first | refine SemW.run tblOk ?_ | refine IntG.nw (by omega) ?_ | refine IntG.nu8 (by omega) ?_ | refine IntG.nu32 (by omega) ?_ | refine IntG.nu64 (by omega) ?_ | refine IntG.wr' rfl ?_ | refine Chk.mk (by omega) ?_ | (refine BrG.id ?_; first | with_reducible refine BrG.t ?_ | with_reducible refine BrG.f ?_ | with_reducible refine BrG.notG ?_ | with_reducible refine BrG.nn ?_ | with_reducible refine BrG.ns ?_ | refine BrG.pos (by omega) ?_ | refine BrG.neg (by omega) ?_) | refine Chk.mk (ptr_ok tblOk rfl rfl) ?_ | refine hS.ldC rfl ?_ | refine hS.ldnC rfl ?_)
        have hlk : ∀ {K : Value → Prop}, K (.int .i64 ((kget p A).getD 0)) → RdG Try.prog (Instr.lookup T_map_int_int (.map (some fm)) (intV p) false) (fun w' => St w T0 ((r, .cells ⟨[intV p, intV kd]⟩ T_api_Fate (0, 0)) :: (fm, .map es' c') :: (b, .cells ⟨[.map (some fm), .int .i64 (0 : Nat), .int .i64 m.acts, .bool m.off, .map (some mf)]⟩ T_vfs_FS (0, 0)) :: (mf, .map es c) :: []) w') K := by
          intro K hK
          refine lookupMap tblOk KEnc.i64 rfl rfl und_int rfl (kvs := A) (fun w' hw' => ⟨es', c', hw'.mem (b := fm), hm.of⟩) ?_
          have : ((kget p A).map intV).getD (.int .i64 0) = .int .i64 ((kget p A).getD 0) := by
            cases kget p A <;> rfl
          rw [← this] at hK; exact hK
        refine hlk ?_
        generalize hz : (kget p A).getD 0 = z at hak
        repeat (first | refine SemW.run tblOk ?_ | refine IntG.nw (by omega) ?_ | refine IntG.nu8 (by omega) ?_ | refine IntG.nu32 (by omega) ?_ | refine IntG.nu64 (by omega) ?_ | refine IntG.wr' rfl ?_ | refine Chk.mk (by omega) ?_ | (refine BrG.id ?_; first | with_reducible refine BrG.t ?_ | with_reducible refine BrG.f ?_ | with_reducible refine BrG.notG ?_ | with_reducible refine BrG.nn ?_ | with_reducible refine BrG.ns ?_ | refine BrG.pos (by omega) ?_ | refine BrG.neg (by omega) ?_) | refine Chk.mk (ptr_ok tblOk rfl rfl) ?_ | refine hS.ldC rfl ?_ | refine hS.ldnC rfl ?_)
        refine BrG.dec (fun h => ?_) (fun h => ?_)
        · repeat (first | refine SemW.run tblOk ?_ | refine IntG.nw (by omega) ?_ | refine IntG.nu8 (by omega) ?_ | refine IntG.nu32 (by omega) ?_ | refine IntG.nu64 (by omega) ?_ | refine IntG.wr' rfl ?_ | refine Chk.mk (by omega) ?_ | (refine BrG.id ?_; first | with_reducible refine BrG.t ?_ | with_reducible refine BrG.f ?_ | with_reducible refine BrG.notG ?_ | with_reducible refine BrG.nn ?_ | with_reducible refine BrG.ns ?_ | refine BrG.pos (by omega) ?_ | refine BrG.neg (by omega) ?_) | refine Chk.mk (ptr_ok tblOk rfl rfl) ?_)
          refine SemW.draw tblOk mixed (fun w' => St w T0 ((r, .cells ⟨[intV p, intV kd]⟩ T_api_Fate (0, 0)) :: (fm, .map es' c') :: (b, .cells ⟨[.map (some fm), .int .i64 (0 : Nat), .int .i64 m.acts, .bool m.off, .map (some mf)]⟩ T_vfs_FS (0, 0)) :: (mf, .map es c) :: []) w')
            [8] [0, 1, 2, 3, 4, 5, 6, 7, 8] (by kernel_rfl) hS.drew ?_
          have hS := hS.drew
          repeat (first | refine SemW.run tblOk ?_ | refine IntG.nw (by omega) ?_ | refine IntG.nu8 (by omega) ?_ | refine IntG.nu32 (by omega) ?_ | refine IntG.nu64 (by omega) ?_ | refine IntG.wr' rfl ?_ | refine Chk.mk (by omega) ?_ | (refine BrG.id ?_; first | with_reducible refine BrG.t ?_ | with_reducible refine BrG.f ?_ | with_reducible refine BrG.notG ?_ | with_reducible refine BrG.nn ?_ | with_reducible refine BrG.ns ?_ | refine BrG.pos (by omega) ?_ | refine BrG.neg (by omega) ?_) | refine Chk.mk (ptr_ok tblOk rfl rfl) ?_ | refine hS.ldC rfl ?_ | refine hS.ldnC rfl ?_)
          refine St.mapSet tblOk KEnc.i64 rfl rfl und_int hS (v := kd) hm ?_
          intro es2 c2 w6 hm2 hS
          have hS := hS.sub (List.sublist_cons_self _ _)
          repeat (first | refine SemW.run tblOk ?_ | refine IntG.nw (by omega) ?_ | refine IntG.nu8 (by omega) ?_ | refine IntG.nu32 (by omega) ?_ | refine IntG.nu64 (by omega) ?_ | refine IntG.wr' rfl ?_ | refine Chk.mk (by omega) ?_ | (refine BrG.id ?_; first | with_reducible refine BrG.t ?_ | with_reducible refine BrG.f ?_ | with_reducible refine BrG.notG ?_ | with_reducible refine BrG.nn ?_ | with_reducible refine BrG.ns ?_ | refine BrG.pos (by omega) ?_ | refine BrG.neg (by omega) ?_) | refine Chk.mk (ptr_ok tblOk rfl rfl) ?_)
          refine ⟨k + 1, ⟨rfl, rfl, rfl, rfl, trivial⟩, ⟨by omega, es2, c2, ?_, hS⟩, by omega⟩
          rw [hA', hak, if_neg (by rintro (h | h | h) <;> omega)]
          exact hm2
        · repeat (first | refine SemW.run tblOk ?_ | refine IntG.nw (by omega) ?_ | refine IntG.nu8 (by omega) ?_ | refine IntG.nu32 (by omega) ?_ | refine IntG.nu64 (by omega) ?_ | refine IntG.wr' rfl ?_ | refine Chk.mk (by omega) ?_ | (refine BrG.id ?_; first | with_reducible refine BrG.t ?_ | with_reducible refine BrG.f ?_ | with_reducible refine BrG.notG ?_ | with_reducible refine BrG.nn ?_ | with_reducible refine BrG.ns ?_ | refine BrG.pos (by omega) ?_ | refine BrG.neg (by omega) ?_) | refine Chk.mk (ptr_ok tblOk rfl rfl) ?_)
          refine ⟨k + 1, ⟨rfl, rfl, rfl, rfl, trivial⟩, ⟨by omega, es', c', by rw [hA', hak, if_pos (.inr (.inr h))]; exact hm, hS.sub (List.sublist_cons_self _ _)⟩, by omega⟩
  · have hke : k = fs.length := by omega
    subst hke
    repeat (first | refine SemW.run tblOk ?_ | refine IntG.nw (by omega) ?_ | refine IntG.nu8 (by omega) ?_ | refine IntG.nu32 (by omega) ?_ | refine IntG.nu64 (by omega) ?_ | refine IntG.wr' rfl ?_ | refine Chk.mk (by omega) ?_ | (refine BrG.id ?_; first | with_reducible refine BrG.t ?_ | with_reducible refine BrG.f ?_ | with_reducible refine BrG.notG ?_ | with_reducible refine BrG.nn ?_ | with_reducible refine BrG.ns ?_ | refine BrG.pos (by omega) ?_ | refine BrG.neg (by omega) ?_) | refine Chk.mk (ptr_ok tblOk rfl rfl) ?_)
    exact ⟨_, FSo.mk (m := { m with fates := armK fs fs.length, armed := 0 }) mf es c hes (some fm) _ (FateMap.made fm es' c' _ hm), hS.perm ((List.Perm.swap _ _ _).trans ((List.Perm.swap _ _ _).cons _))⟩
end Go.Proofs.Ytnmmiiffeenjbaa
