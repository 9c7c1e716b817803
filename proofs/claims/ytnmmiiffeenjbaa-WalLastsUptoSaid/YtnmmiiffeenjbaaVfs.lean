/- Package vfs: the file system as an object in memory, and what each method does to it. -/
import Derived.Test.YtnmmiiffeenjbaaFrame
import Derived.Test.YtnmmiiffeenjbaaMap
namespace Go.Proofs.Ytnmmiiffeenjbaa
open Go Go.Eng Go.Proofs

abbrev Bytes := List UInt8
/-- A file: its text, and how much of it is synced. -/
def fileV (x : Bytes × Nat) : Value := .agg ⟨[Str x.1, .int .i64 x.2]⟩
def intV (n : Int) : Value := .int .i64 n
structure FSm where
  files : List (Bytes × (Bytes × Nat))
  fates : List (Int × Int)
  armed : Nat
  acts : Nat
  off : Bool

/-- The map of fates: nil, or a map. -/
inductive FateMap : Option Nat → List (Int × Int) → Heap → Prop where
  | nil : FateMap none [] []
  | made (f : Nat) (es : Array MapEntry) (c : Nat) (fs : List (Int × Int)) (h : MapC intV intV es c fs) : FateMap (some f) fs [(f, .map es c)]
inductive FSo (b : Nat) (m : FSm) : Heap → Prop where
  | mk (mf : Nat) (es : Array MapEntry) (c : Nat) (hes : MapC Str fileV es c m.files) (ft : Option Nat) (Lf : Heap) (hf : FateMap ft m.fates Lf) :
    FSo b m ((b, .cells ⟨[.map ft, .int .i64 m.armed, .int .i64 m.acts, .bool m.off, .map (some mf)]⟩ T_vfs_FS (0, 0)) :: (mf, .map es c) :: Lf)

theorem und_str : Try.prog.underlying T_string = some .string := und_of tblOk (t := T_string) rfl
theorem und_int : Try.prog.underlying T_int = some (.int .i64) := und_of tblOk (t := T_int) rfl

theorem New_spec {w : World} : Cl Try.prog f_vfs_New [] w fun v w' => ∃ b L, v = ptr b ∧ w.heap.size ≤ b ∧ FSo b ⟨[], [], 0, 0, false⟩ L ∧ St w [] L w' := by
  have hS := St.start w
  refine en_vfs_New rfl ?_
  repeat (first | refine SemW.run tblOk ?_ | refine IntG.nw (by omega) ?_ | refine IntG.nu8 (by omega) ?_ | refine IntG.nu32 (by omega) ?_ | refine IntG.nu64 (by omega) ?_ | refine IntG.wr' rfl ?_ | refine Chk.mk (by omega) ?_ | (refine BrG.id ?_; first | with_reducible refine BrG.t ?_ | with_reducible refine BrG.f ?_ | with_reducible refine BrG.notG ?_ | with_reducible refine BrG.nn ?_ | with_reducible refine BrG.ns ?_ | refine BrG.pos (by omega) ?_ | refine BrG.neg (by omega) ?_) | refine Chk.mk (ptr_ok tblOk rfl rfl) ?_)
  refine hS.al ?_
  intro mf w1 _ hS
  repeat (first | refine SemW.run tblOk ?_ | refine IntG.nw (by omega) ?_ | refine IntG.nu8 (by omega) ?_ | refine IntG.nu32 (by omega) ?_ | refine IntG.nu64 (by omega) ?_ | refine IntG.wr' rfl ?_ | refine Chk.mk (by omega) ?_ | (refine BrG.id ?_; first | with_reducible refine BrG.t ?_ | with_reducible refine BrG.f ?_ | with_reducible refine BrG.notG ?_ | with_reducible refine BrG.nn ?_ | with_reducible refine BrG.ns ?_ | refine BrG.pos (by omega) ?_ | refine BrG.neg (by omega) ?_) | refine Chk.mk (ptr_ok tblOk rfl rfl) ?_)
  refine hS.al ?_
  intro b w2 hb hS
  repeat (first | refine SemW.run tblOk ?_ | refine IntG.nw (by omega) ?_ | refine IntG.nu8 (by omega) ?_ | refine IntG.nu32 (by omega) ?_ | refine IntG.nu64 (by omega) ?_ | refine IntG.wr' rfl ?_ | refine Chk.mk (by omega) ?_ | (refine BrG.id ?_; first | with_reducible refine BrG.t ?_ | with_reducible refine BrG.f ?_ | with_reducible refine BrG.notG ?_ | with_reducible refine BrG.nn ?_ | with_reducible refine BrG.ns ?_ | refine BrG.pos (by omega) ?_ | refine BrG.neg (by omega) ?_) | refine Chk.mk (ptr_ok tblOk rfl rfl) ?_)
  exact ⟨b, _, rfl, hb, FSo.mk (m := ⟨[], [], 0, 0, false⟩) mf #[] 0 ⟨rfl, by simp [Stamp]⟩ none [] FateMap.nil, hS⟩

theorem Down_spec {w : World} {b : Nat} {m : FSm} {L : Heap} (hF : FSo b m L) (hh : Holds L w) : Cl Try.prog f_vfs_power_Down [ptr b] w fun v w' => v = .bool m.off ∧ St w (keys L) L w' := by
  have hS := St.enter hh
  obtain ⟨mf, es, c, hes, ft, Lf, hf⟩ := hF
  refine en_vfs_power_Down rfl ?_
  repeat (first | refine SemW.run tblOk ?_ | refine IntG.nw (by omega) ?_ | refine IntG.nu8 (by omega) ?_ | refine IntG.nu32 (by omega) ?_ | refine IntG.nu64 (by omega) ?_ | refine IntG.wr' rfl ?_ | refine Chk.mk (by omega) ?_ | (refine BrG.id ?_; first | with_reducible refine BrG.t ?_ | with_reducible refine BrG.f ?_ | with_reducible refine BrG.notG ?_ | with_reducible refine BrG.nn ?_ | with_reducible refine BrG.ns ?_ | refine BrG.pos (by omega) ?_ | refine BrG.neg (by omega) ?_) | refine Chk.mk (ptr_ok tblOk rfl rfl) ?_ | refine hS.ld rfl ?_ | refine hS.ldn rfl ?_ | (refine hS.st rfl rfl ?_; intro _ hS))
  exact ⟨rfl, hS⟩
theorem Acts_spec {w : World} {b : Nat} {m : FSm} {L : Heap} (hF : FSo b m L) (hh : Holds L w) : Cl Try.prog f_vfs_power_Acts [ptr b] w fun v w' => v = .int .i64 m.acts ∧ St w (keys L) L w' := by
  have hS := St.enter hh
  obtain ⟨mf, es, c, hes, ft, Lf, hf⟩ := hF
  refine en_vfs_power_Acts rfl ?_
  repeat (first | refine SemW.run tblOk ?_ | refine IntG.nw (by omega) ?_ | refine IntG.nu8 (by omega) ?_ | refine IntG.nu32 (by omega) ?_ | refine IntG.nu64 (by omega) ?_ | refine IntG.wr' rfl ?_ | refine Chk.mk (by omega) ?_ | (refine BrG.id ?_; first | with_reducible refine BrG.t ?_ | with_reducible refine BrG.f ?_ | with_reducible refine BrG.notG ?_ | with_reducible refine BrG.nn ?_ | with_reducible refine BrG.ns ?_ | refine BrG.pos (by omega) ?_ | refine BrG.neg (by omega) ?_) | refine Chk.mk (ptr_ok tblOk rfl rfl) ?_ | refine hS.ld rfl ?_ | refine hS.ldn rfl ?_ | (refine hS.st rfl rfl ?_; intro _ hS))
  exact ⟨rfl, hS⟩
theorem done_spec {w : World} {b : Nat} {m : FSm} {L : Heap} (hF : FSo b m L) (hh : Holds L w) : Cl Try.prog f_vfs_power_done [ptr b] w fun v w' => v = .int .i64 (if m.off then 7 else 0) ∧ St w (keys L) L w' := by
  have hS := St.enter hh
  obtain ⟨mf, es, c, hes, ft, Lf, hf⟩ := hF
  refine en_vfs_power_done rfl ?_
  repeat (first | refine SemW.run tblOk ?_ | refine IntG.nw (by omega) ?_ | refine IntG.nu8 (by omega) ?_ | refine IntG.nu32 (by omega) ?_ | refine IntG.nu64 (by omega) ?_ | refine IntG.wr' rfl ?_ | refine Chk.mk (by omega) ?_ | (refine BrG.id ?_; first | with_reducible refine BrG.t ?_ | with_reducible refine BrG.f ?_ | with_reducible refine BrG.notG ?_ | with_reducible refine BrG.nn ?_ | with_reducible refine BrG.ns ?_ | refine BrG.pos (by omega) ?_ | refine BrG.neg (by omega) ?_) | refine Chk.mk (ptr_ok tblOk rfl rfl) ?_ | refine hS.ld rfl ?_ | refine hS.ldn rfl ?_ | (refine hS.st rfl rfl ?_; intro _ hS))
  refine BrG.bool (fun h => ?_) (fun h => ?_)
  · repeat (first | refine SemW.run tblOk ?_ | refine IntG.nw (by omega) ?_ | refine IntG.nu8 (by omega) ?_ | refine IntG.nu32 (by omega) ?_ | refine IntG.nu64 (by omega) ?_ | refine IntG.wr' rfl ?_ | refine Chk.mk (by omega) ?_ | (refine BrG.id ?_; first | with_reducible refine BrG.t ?_ | with_reducible refine BrG.f ?_ | with_reducible refine BrG.notG ?_ | with_reducible refine BrG.nn ?_ | with_reducible refine BrG.ns ?_ | refine BrG.pos (by omega) ?_ | refine BrG.neg (by omega) ?_) | refine Chk.mk (ptr_ok tblOk rfl rfl) ?_ | refine hS.ld rfl ?_ | refine hS.ldn rfl ?_ | (refine hS.st rfl rfl ?_; intro _ hS))
    exact ⟨by rw [h]; rfl, hS⟩
  · repeat (first | refine SemW.run tblOk ?_ | refine IntG.nw (by omega) ?_ | refine IntG.nu8 (by omega) ?_ | refine IntG.nu32 (by omega) ?_ | refine IntG.nu64 (by omega) ?_ | refine IntG.wr' rfl ?_ | refine Chk.mk (by omega) ?_ | (refine BrG.id ?_; first | with_reducible refine BrG.t ?_ | with_reducible refine BrG.f ?_ | with_reducible refine BrG.notG ?_ | with_reducible refine BrG.nn ?_ | with_reducible refine BrG.ns ?_ | refine BrG.pos (by omega) ?_ | refine BrG.neg (by omega) ?_) | refine Chk.mk (ptr_ok tblOk rfl rfl) ?_ | refine hS.ld rfl ?_ | refine hS.ldn rfl ?_ | (refine hS.st rfl rfl ?_; intro _ hS))
    exact ⟨by rw [h]; rfl, hS⟩

def named (s : Bytes) : Bool := decide (s ≠ []) && decide (s.length ≤ 40)
theorem named_spec {w : World} (s : Bytes) : Cl Try.prog f_vfs_named [Str s] w fun v w' => v = .bool (named s) ∧ St w [] [] w' := by
  have hS := St.start w
  refine en_vfs_named rfl ?_
  repeat (first | refine SemW.run tblOk ?_ | refine IntG.nw (by omega) ?_ | refine IntG.nu8 (by omega) ?_ | refine IntG.nu32 (by omega) ?_ | refine IntG.nu64 (by omega) ?_ | refine IntG.wr' rfl ?_ | refine Chk.mk (by omega) ?_ | (refine BrG.id ?_; first | with_reducible refine BrG.t ?_ | with_reducible refine BrG.f ?_ | with_reducible refine BrG.notG ?_ | with_reducible refine BrG.nn ?_ | with_reducible refine BrG.ns ?_ | refine BrG.pos (by omega) ?_ | refine BrG.neg (by omega) ?_) | refine Chk.mk (ptr_ok tblOk rfl rfl) ?_)
  refine BrG.dec (fun h => ?_) (fun h => ?_)
  · repeat (first | refine SemW.run tblOk ?_ | refine IntG.nw (by omega) ?_ | refine IntG.nu8 (by omega) ?_ | refine IntG.nu32 (by omega) ?_ | refine IntG.nu64 (by omega) ?_ | refine IntG.wr' rfl ?_ | refine Chk.mk (by omega) ?_ | (refine BrG.id ?_; first | with_reducible refine BrG.t ?_ | with_reducible refine BrG.f ?_ | with_reducible refine BrG.notG ?_ | with_reducible refine BrG.nn ?_ | with_reducible refine BrG.ns ?_ | refine BrG.pos (by omega) ?_ | refine BrG.neg (by omega) ?_) | refine Chk.mk (ptr_ok tblOk rfl rfl) ?_)
    subst h
    exact ⟨rfl, hS⟩
  · repeat (first | refine SemW.run tblOk ?_ | refine IntG.nw (by omega) ?_ | refine IntG.nu8 (by omega) ?_ | refine IntG.nu32 (by omega) ?_ | refine IntG.nu64 (by omega) ?_ | refine IntG.wr' rfl ?_ | refine Chk.mk (by omega) ?_ | (refine BrG.id ?_; first | with_reducible refine BrG.t ?_ | with_reducible refine BrG.f ?_ | with_reducible refine BrG.notG ?_ | with_reducible refine BrG.nn ?_ | with_reducible refine BrG.ns ?_ | refine BrG.pos (by omega) ?_ | refine BrG.neg (by omega) ?_) | refine Chk.mk (ptr_ok tblOk rfl rfl) ?_)
    refine ⟨?_, hS⟩
    unfold named
    rw [decide_eq_true h, Bool.true_and]
    exact congrArg Value.bool (decide_eq_decide.2 (by omega))

/-- The fate of the act that comes next. -/
def fateOf (m : FSm) : Int := (kget (m.armed : Int) m.fates).getD 0
/-- Behind one act. -/
def acted (m : FSm) : FSm := { m with armed := m.armed + 1, acts := m.acts + 1, off := decide (fateOf m = 1) || decide (fateOf m = 2) }
theorem act_spec {w : World} {b : Nat} {m : FSm} {L : Heap} (hF : FSo b m L) (hh : Holds L w) (h1 : m.armed + 1 ≤ 9223372036854775807) (h2 : m.acts + 1 ≤ 9223372036854775807) :
    Cl Try.prog f_vfs_power_act [ptr b] w fun v w' => v = .int .i64 (fateOf m) ∧ ∃ L', FSo b (acted m) L' ∧ St w (keys L) L' w' := by
  have hS := St.enter hh
  obtain ⟨mf, es, c, hes, ft, Lf, hf⟩ := hF
  refine en_vfs_power_act rfl ?_
  repeat (first | refine SemW.run tblOk ?_ | refine IntG.nw (by omega) ?_ | refine IntG.nu8 (by omega) ?_ | refine IntG.nu32 (by omega) ?_ | refine IntG.nu64 (by omega) ?_ | refine IntG.wr' rfl ?_ | refine Chk.mk (by omega) ?_ | (refine BrG.id ?_; first | with_reducible refine BrG.t ?_ | with_reducible refine BrG.f ?_ | with_reducible refine BrG.notG ?_ | with_reducible refine BrG.nn ?_ | with_reducible refine BrG.ns ?_ | refine BrG.pos (by omega) ?_ | refine BrG.neg (by omega) ?_) | refine Chk.mk (ptr_ok tblOk rfl rfl) ?_)
  refine SemW.draw tblOk mixed (fun w' => St w (keys ((b, .cells ⟨[.map ft, .int .i64 m.armed, .int .i64 m.acts, .bool m.off, .map (some mf)]⟩ T_vfs_FS (0, 0)) :: (mf, .map es c) :: Lf)) ((b, .cells ⟨[.map ft, .int .i64 m.armed, .int .i64 m.acts, .bool m.off, .map (some mf)]⟩ T_vfs_FS (0, 0)) :: (mf, .map es c) :: Lf) w')
    [] [0, 1, 2, 3, 4, 5, 6, 7, 8, 9] (by kernel_rfl) hS.drew ?_
  have hS := hS.drew
  generalize w.drew = w1 at hS ⊢
  repeat (first | refine SemW.run tblOk ?_ | refine IntG.nw (by omega) ?_ | refine IntG.nu8 (by omega) ?_ | refine IntG.nu32 (by omega) ?_ | refine IntG.nu64 (by omega) ?_ | refine IntG.wr' rfl ?_ | refine Chk.mk (by omega) ?_ | (refine BrG.id ?_; first | with_reducible refine BrG.t ?_ | with_reducible refine BrG.f ?_ | with_reducible refine BrG.notG ?_ | with_reducible refine BrG.nn ?_ | with_reducible refine BrG.ns ?_ | refine BrG.pos (by omega) ?_ | refine BrG.neg (by omega) ?_) | refine Chk.mk (ptr_ok tblOk rfl rfl) ?_ | refine hS.ldC rfl ?_ | refine hS.ldnC rfl ?_)
  have key : ∀ {K : Value → Prop}, K (.int .i64 (fateOf m)) → RdG Try.prog (Instr.lookup T_map_int_int (.map ft) (intV m.armed) false) (fun w' => St w (keys ((b, .cells ⟨[.map ft, .int .i64 m.armed, .int .i64 m.acts, .bool m.off, .map (some mf)]⟩ T_vfs_FS (0, 0)) :: (mf, .map es c) :: Lf)) ((b, .cells ⟨[.map ft, .int .i64 m.armed, .int .i64 m.acts, .bool m.off, .map (some mf)]⟩ T_vfs_FS (0, 0)) :: (mf, .map es c) :: Lf) w') K := by
    intro K hK
    generalize hfs : m.fates = fs at hf
    cases hf with
    | nil =>
      refine lookupNil tblOk KEnc.i64 rfl rfl und_int rfl ?_
      have : fateOf m = 0 := by unfold fateOf; rw [hfs]; rfl
      rw [this] at hK; exact hK
    | made f es' c' _ hm =>
      refine lookupMap tblOk KEnc.i64 rfl rfl und_int rfl (kvs := fs) (fun w' hw' => ⟨es', c', hw'.mem (b := f), hm.of⟩) ?_
      have : ((kget (m.armed : Int) fs).map intV).getD (.int .i64 0) = .int .i64 (fateOf m) := by
        unfold fateOf; rw [hfs]
        cases kget (m.armed : Int) fs <;> rfl
      rw [← this] at hK; exact hK
  refine key ?_
  generalize hfm : fateOf m = fm
  have fin : ∀ w', St w (keys ((b, .cells ⟨[.map ft, .int .i64 m.armed, .int .i64 m.acts, .bool m.off, .map (some mf)]⟩ T_vfs_FS (0, 0)) :: (mf, .map es c) :: Lf)) ((b, .cells ⟨[.map ft, .int .i64 (m.armed + 1 : Nat), .int .i64 (m.acts + 1 : Nat), .bool (decide (fm = 1) || decide (fm = 2)), .map (some mf)]⟩ T_vfs_FS (0, 0)) :: (mf, .map es c) :: Lf) w' →
      ∃ L', FSo b (acted m) L' ∧ St w (keys ((b, .cells ⟨[.map ft, .int .i64 m.armed, .int .i64 m.acts, .bool m.off, .map (some mf)]⟩ T_vfs_FS (0, 0)) :: (mf, .map es c) :: Lf)) L' w' := fun w' h =>
    ⟨_, FSo.mk (m := acted m) mf es c hes ft Lf hf, by unfold acted; rw [hfm]; exact h⟩
  repeat (first | refine SemW.run tblOk ?_ | refine IntG.nw (by omega) ?_ | refine IntG.nu8 (by omega) ?_ | refine IntG.nu32 (by omega) ?_ | refine IntG.nu64 (by omega) ?_ | refine IntG.wr' rfl ?_ | refine Chk.mk (by omega) ?_ | (refine BrG.id ?_; first | with_reducible refine BrG.t ?_ | with_reducible refine BrG.f ?_ | with_reducible refine BrG.notG ?_ | with_reducible refine BrG.nn ?_ | with_reducible refine BrG.ns ?_ | refine BrG.pos (by omega) ?_ | refine BrG.neg (by omega) ?_) | refine Chk.mk (ptr_ok tblOk rfl rfl) ?_ | refine hS.ld rfl ?_ | refine hS.ldn rfl ?_ | (refine hS.st rfl rfl ?_; intro _ hS))
  refine BrG.dec (fun h => ?_) (fun h => ?_)
  · subst h
    repeat (first | refine SemW.run tblOk ?_ | refine IntG.nw (by omega) ?_ | refine IntG.nu8 (by omega) ?_ | refine IntG.nu32 (by omega) ?_ | refine IntG.nu64 (by omega) ?_ | refine IntG.wr' rfl ?_ | refine Chk.mk (by omega) ?_ | (refine BrG.id ?_; first | with_reducible refine BrG.t ?_ | with_reducible refine BrG.f ?_ | with_reducible refine BrG.notG ?_ | with_reducible refine BrG.nn ?_ | with_reducible refine BrG.ns ?_ | refine BrG.pos (by omega) ?_ | refine BrG.neg (by omega) ?_) | refine Chk.mk (ptr_ok tblOk rfl rfl) ?_ | refine hS.ld rfl ?_ | refine hS.ldn rfl ?_ | (refine hS.st rfl rfl ?_; intro _ hS))
    exact ⟨rfl, fin _ hS⟩
  · have e1 : decide (fm = 1) = false := by simp [h]
    rw [e1] at fin
    repeat (first | refine SemW.run tblOk ?_ | refine IntG.nw (by omega) ?_ | refine IntG.nu8 (by omega) ?_ | refine IntG.nu32 (by omega) ?_ | refine IntG.nu64 (by omega) ?_ | refine IntG.wr' rfl ?_ | refine Chk.mk (by omega) ?_ | (refine BrG.id ?_; first | with_reducible refine BrG.t ?_ | with_reducible refine BrG.f ?_ | with_reducible refine BrG.notG ?_ | with_reducible refine BrG.nn ?_ | with_reducible refine BrG.ns ?_ | refine BrG.pos (by omega) ?_ | refine BrG.neg (by omega) ?_) | refine Chk.mk (ptr_ok tblOk rfl rfl) ?_ | refine hS.ld rfl ?_ | refine hS.ldn rfl ?_ | (refine hS.st rfl rfl ?_; intro _ hS))
    exact ⟨rfl, fin _ hS⟩

def fget (m : FSm) (name : Bytes) : Option (Bytes × Nat) := kget name m.files
/-- What 'find' answers. -/
def findM (m : FSm) (name : Bytes) : (Bytes × Nat) × Int := if m.off then (([], 0), 7) else match fget m name with | none => (([], 0), 5) | some x => (x, 0)
theorem find_spec {w : World} {b : Nat} {m : FSm} {L : Heap} (hF : FSo b m L) (hh : Holds L w) (name : Bytes) :
    Cl Try.prog f_vfs_FS_find [ptr b, Str name] w fun v w' => v = .tuple ⟨[fileV (findM m name).1, .int .i64 (findM m name).2]⟩ ∧ St w (keys L) L w' := by
  have hS := St.enter hh
  obtain ⟨mf, es, c, hes, ft, Lf, hf⟩ := hF
  refine en_vfs_FS_find rfl ?_
  repeat (first | refine SemW.run tblOk ?_ | refine IntG.nw (by omega) ?_ | refine IntG.nu8 (by omega) ?_ | refine IntG.nu32 (by omega) ?_ | refine IntG.nu64 (by omega) ?_ | refine IntG.wr' rfl ?_ | refine Chk.mk (by omega) ?_ | (refine BrG.id ?_; first | with_reducible refine BrG.t ?_ | with_reducible refine BrG.f ?_ | with_reducible refine BrG.notG ?_ | with_reducible refine BrG.nn ?_ | with_reducible refine BrG.ns ?_ | refine BrG.pos (by omega) ?_ | refine BrG.neg (by omega) ?_) | refine Chk.mk (ptr_ok tblOk rfl rfl) ?_)
  refine hS.al ?_
  intro r w1 _ hS
  repeat (first | refine SemW.run tblOk ?_ | refine IntG.nw (by omega) ?_ | refine IntG.nu8 (by omega) ?_ | refine IntG.nu32 (by omega) ?_ | refine IntG.nu64 (by omega) ?_ | refine IntG.wr' rfl ?_ | refine Chk.mk (by omega) ?_ | (refine BrG.id ?_; first | with_reducible refine BrG.t ?_ | with_reducible refine BrG.f ?_ | with_reducible refine BrG.notG ?_ | with_reducible refine BrG.nn ?_ | with_reducible refine BrG.ns ?_ | refine BrG.pos (by omega) ?_ | refine BrG.neg (by omega) ?_) | refine Chk.mk (ptr_ok tblOk rfl rfl) ?_ | refine hS.ld rfl ?_ | refine hS.ldn rfl ?_ | (refine hS.st rfl rfl ?_; intro _ hS))
  refine lookupMap tblOk KEnc.str rfl rfl und_str rfl (kvs := m.files) (fun w' hw' => ⟨es, c, by subst hw'; exact hS.mem (b := mf), hes.of⟩) ?_
  have hv : ∃ x : Bytes × Nat, ((kget name m.files).map fileV).getD (.agg ⟨[.string ⟨⟨[]⟩⟩, .int .i64 0]⟩) = .agg ⟨[Str x.1, .int .i64 x.2]⟩ ∧ ((kget name m.files).isSome = true → kget name m.files = some x) := by
    cases kget name m.files with
    | none => exact ⟨([], 0), rfl, nofun⟩
    | some x => exact ⟨x, rfl, fun _ => rfl⟩
  obtain ⟨x, hx1, hx2⟩ := hv
  have hx1' : ((kget name m.files).map fileV).getD (TI.zero ⟨.struct [(0, 1), (1, 1)], 2, 24, .agg ⟨[.string ⟨⟨[]⟩⟩, .int .i64 0]⟩⟩) = .agg ⟨[Str x.1, .int .i64 x.2]⟩ := hx1
  simp only [hx1']
  repeat (first | refine SemW.run tblOk ?_ | refine IntG.nw (by omega) ?_ | refine IntG.nu8 (by omega) ?_ | refine IntG.nu32 (by omega) ?_ | refine IntG.nu64 (by omega) ?_ | refine IntG.wr' rfl ?_ | refine Chk.mk (by omega) ?_ | (refine BrG.id ?_; first | with_reducible refine BrG.t ?_ | with_reducible refine BrG.f ?_ | with_reducible refine BrG.notG ?_ | with_reducible refine BrG.nn ?_ | with_reducible refine BrG.ns ?_ | refine BrG.pos (by omega) ?_ | refine BrG.neg (by omega) ?_) | refine Chk.mk (ptr_ok tblOk rfl rfl) ?_)
  refine hS.al ?_
  intro r2 w2 _ hS
  repeat (first | refine SemW.run tblOk ?_ | refine IntG.nw (by omega) ?_ | refine IntG.nu8 (by omega) ?_ | refine IntG.nu32 (by omega) ?_ | refine IntG.nu64 (by omega) ?_ | refine IntG.wr' rfl ?_ | refine Chk.mk (by omega) ?_ | (refine BrG.id ?_; first | with_reducible refine BrG.t ?_ | with_reducible refine BrG.f ?_ | with_reducible refine BrG.notG ?_ | with_reducible refine BrG.nn ?_ | with_reducible refine BrG.ns ?_ | refine BrG.pos (by omega) ?_ | refine BrG.neg (by omega) ?_) | refine Chk.mk (ptr_ok tblOk rfl rfl) ?_ | refine hS.ld rfl ?_ | refine hS.ldn rfl ?_ | (refine hS.st rfl rfl ?_; intro _ hS))
  have hS := hS
  refine BrG.bool (fun h => ?_) (fun h => ?_)
  · repeat (first | refine SemW.run tblOk ?_ | refine IntG.nw (by omega) ?_ | refine IntG.nu8 (by omega) ?_ | refine IntG.nu32 (by omega) ?_ | refine IntG.nu64 (by omega) ?_ | refine IntG.wr' rfl ?_ | refine Chk.mk (by omega) ?_ | (refine BrG.id ?_; first | with_reducible refine BrG.t ?_ | with_reducible refine BrG.f ?_ | with_reducible refine BrG.notG ?_ | with_reducible refine BrG.nn ?_ | with_reducible refine BrG.ns ?_ | refine BrG.pos (by omega) ?_ | refine BrG.neg (by omega) ?_) | refine Chk.mk (ptr_ok tblOk rfl rfl) ?_ | refine hS.ld rfl ?_ | refine hS.ldn rfl ?_ | (refine hS.st rfl rfl ?_; intro _ hS))
    have e : findM m name = (([], 0), 7) := by unfold findM; rw [h]; rfl
    rw [e]
    exact ⟨rfl, hS.sub (((List.Sublist.refl _).cons _).cons _)⟩
  · repeat (first | refine SemW.run tblOk ?_ | refine IntG.nw (by omega) ?_ | refine IntG.nu8 (by omega) ?_ | refine IntG.nu32 (by omega) ?_ | refine IntG.nu64 (by omega) ?_ | refine IntG.wr' rfl ?_ | refine Chk.mk (by omega) ?_ | (refine BrG.id ?_; first | with_reducible refine BrG.t ?_ | with_reducible refine BrG.f ?_ | with_reducible refine BrG.notG ?_ | with_reducible refine BrG.nn ?_ | with_reducible refine BrG.ns ?_ | refine BrG.pos (by omega) ?_ | refine BrG.neg (by omega) ?_) | refine Chk.mk (ptr_ok tblOk rfl rfl) ?_ | refine hS.ld rfl ?_ | refine hS.ldn rfl ?_ | (refine hS.st rfl rfl ?_; intro _ hS))
    refine BrG.bool (fun h2 => ?_) (fun h2 => ?_)
    · have e : findM m name = (x, 0) := by unfold findM fget; rw [h, hx2 h2]; rfl
      rw [e]
      repeat (first | refine SemW.run tblOk ?_ | refine IntG.nw (by omega) ?_ | refine IntG.nu8 (by omega) ?_ | refine IntG.nu32 (by omega) ?_ | refine IntG.nu64 (by omega) ?_ | refine IntG.wr' rfl ?_ | refine Chk.mk (by omega) ?_ | (refine BrG.id ?_; first | with_reducible refine BrG.t ?_ | with_reducible refine BrG.f ?_ | with_reducible refine BrG.notG ?_ | with_reducible refine BrG.nn ?_ | with_reducible refine BrG.ns ?_ | refine BrG.pos (by omega) ?_ | refine BrG.neg (by omega) ?_) | refine Chk.mk (ptr_ok tblOk rfl rfl) ?_ | refine hS.ld rfl ?_ | refine hS.ldn rfl ?_ | (refine hS.st rfl rfl ?_; intro _ hS))
      exact ⟨rfl, hS.sub (((List.Sublist.refl _).cons _).cons _)⟩
    · have hn : kget name m.files = none := by simpa using h2
      have e : findM m name = (([], 0), 5) := by unfold findM fget; rw [h, hn]; rfl
      rw [e]
      repeat (first | refine SemW.run tblOk ?_ | refine IntG.nw (by omega) ?_ | refine IntG.nu8 (by omega) ?_ | refine IntG.nu32 (by omega) ?_ | refine IntG.nu64 (by omega) ?_ | refine IntG.wr' rfl ?_ | refine Chk.mk (by omega) ?_ | (refine BrG.id ?_; first | with_reducible refine BrG.t ?_ | with_reducible refine BrG.f ?_ | with_reducible refine BrG.notG ?_ | with_reducible refine BrG.nn ?_ | with_reducible refine BrG.ns ?_ | refine BrG.pos (by omega) ?_ | refine BrG.neg (by omega) ?_) | refine Chk.mk (ptr_ok tblOk rfl rfl) ?_ | refine hS.ld rfl ?_ | refine hS.ldn rfl ?_ | (refine hS.st rfl rfl ?_; intro _ hS))
      exact ⟨rfl, hS.sub (((List.Sublist.refl _).cons _).cons _)⟩

theorem Read_spec {w : World} {b : Nat} {m : FSm} {L : Heap} (hF : FSo b m L) (hh : Holds L w) (name : Bytes) :
    Cl Try.prog f_vfs_FS_Read [ptr b, Str name] w fun v w' => v = .tuple ⟨[Str (findM m name).1.1, .int .i64 (findM m name).2]⟩ ∧ St w (keys L) L w' := by
  refine en_vfs_FS_Read rfl ?_
  repeat (first | refine SemW.run tblOk ?_ | refine IntG.nw (by omega) ?_ | refine IntG.nu8 (by omega) ?_ | refine IntG.nu32 (by omega) ?_ | refine IntG.nu64 (by omega) ?_ | refine IntG.wr' rfl ?_ | refine Chk.mk (by omega) ?_ | (refine BrG.id ?_; first | with_reducible refine BrG.t ?_ | with_reducible refine BrG.f ?_ | with_reducible refine BrG.notG ?_ | with_reducible refine BrG.nn ?_ | with_reducible refine BrG.ns ?_ | refine BrG.pos (by omega) ?_ | refine BrG.neg (by omega) ?_) | refine Chk.mk (ptr_ok tblOk rfl rfl) ?_)
  refine (find_spec hF hh name).mono ?_
  rintro _ w1 ⟨rfl, hS⟩
  repeat (first | refine SemW.run tblOk ?_ | refine IntG.nw (by omega) ?_ | refine IntG.nu8 (by omega) ?_ | refine IntG.nu32 (by omega) ?_ | refine IntG.nu64 (by omega) ?_ | refine IntG.wr' rfl ?_ | refine Chk.mk (by omega) ?_ | (refine BrG.id ?_; first | with_reducible refine BrG.t ?_ | with_reducible refine BrG.f ?_ | with_reducible refine BrG.notG ?_ | with_reducible refine BrG.nn ?_ | with_reducible refine BrG.ns ?_ | refine BrG.pos (by omega) ?_ | refine BrG.neg (by omega) ?_) | refine Chk.mk (ptr_ok tblOk rfl rfl) ?_)
  refine hS.al ?_
  intro r w2 _ hS
  repeat (first | refine SemW.run tblOk ?_ | refine IntG.nw (by omega) ?_ | refine IntG.nu8 (by omega) ?_ | refine IntG.nu32 (by omega) ?_ | refine IntG.nu64 (by omega) ?_ | refine IntG.wr' rfl ?_ | refine Chk.mk (by omega) ?_ | (refine BrG.id ?_; first | with_reducible refine BrG.t ?_ | with_reducible refine BrG.f ?_ | with_reducible refine BrG.notG ?_ | with_reducible refine BrG.nn ?_ | with_reducible refine BrG.ns ?_ | refine BrG.pos (by omega) ?_ | refine BrG.neg (by omega) ?_) | refine Chk.mk (ptr_ok tblOk rfl rfl) ?_ | refine hS.ld rfl ?_ | refine hS.ldn rfl ?_ | (refine hS.st rfl rfl ?_; intro _ hS))
  exact ⟨rfl, hS.sub (List.sublist_cons_self _ _)⟩

theorem lookupFile {C : World → Prop} {mf : Nat} {name : Bytes} {fs : List (Bytes × (Bytes × Nat))} (hm : ∀ w, C w → ∃ es clock, w.heap[mf]? = some (.map es clock) ∧ MapOf Str fileV es fs) {K : Value → Prop}
    (hK : K (fileV ((kget name fs).getD ([], 0)))) : RdG Try.prog (Instr.lookup T_map_string_vfs_file (.map (some mf)) (Str name) false) C K := by
  refine lookupMap tblOk KEnc.str rfl rfl und_str rfl hm ?_
  cases h : kget name fs with
  | none => rw [h] at hK; exact hK
  | some x => rw [h] at hK; exact hK

/-- Append: the answer and what becomes of the file system. -/
def appendM (m : FSm) (name : Bytes) (ps : List Bytes) : Int × FSm :=
  if m.off then (7, m)
  else if !named name then (4, m)
  else if fateOf m = 3 then (6, acted m)
  else if fateOf m = 1 then (7, acted m)
  else (if (acted m).off then 7 else 0, { acted m with files := kput name (((fget m name).getD ([], 0)).1 ++ ps.flatten, ((fget m name).getD ([], 0)).2) m.files })

set_option maxHeartbeats 1000000 in
theorem Append_spec {w : World} {b : Nat} {m : FSm} {L : Heap} (hF : FSo b m L) (hh : Holds L w) (name : Bytes) {a : Option Addr} {cap : Nat} {ps : List Bytes} (ha : Arr w (keys L) a (ps.map Str))
    (hc : ps.length ≤ cap) (hcc : cap ≤ 140737488355328) (hlen : sumLen ps + ((fget m name).getD ([], 0)).1.length ≤ 140737488355328) (h1 : m.armed + 1 ≤ 9223372036854775807) (h2 : m.acts + 1 ≤ 9223372036854775807) :
    Cl Try.prog f_vfs_FS_Append [ptr b, Str name, .slice a ps.length cap] w fun v w' => v = .int .i64 (appendM m name ps).1 ∧ ∃ L', FSo b (appendM m name ps).2 L' ∧ St w (keys L) L' w' := by
  have hS := St.enter hh
  refine en_vfs_FS_Append rfl ?_
  unfold appendM
  have hoff : ∃ mf es c, ∃ (_ : MapC Str fileV es c m.files), ∃ ft Lf, ∃ (_ : FateMap ft m.fates Lf), L = (b, .cells ⟨[.map ft, .int .i64 m.armed, .int .i64 m.acts, .bool m.off, .map (some mf)]⟩ T_vfs_FS (0, 0)) :: (mf, .map es c) :: Lf := by
    obtain ⟨mf, es, c, hes, ft, Lf, hf⟩ := hF; exact ⟨mf, es, c, hes, ft, Lf, hf, rfl⟩
  obtain ⟨mf, es, c, hes, ft, Lf, hf, hL⟩ := hoff
  have hSL := hS
  rw [hL] at hSL
  have hS0 := hS
  have hS := hSL
  repeat (first | refine SemW.run tblOk ?_ | refine IntG.nw (by omega) ?_ | refine IntG.nu8 (by omega) ?_ | refine IntG.nu32 (by omega) ?_ | refine IntG.nu64 (by omega) ?_ | refine IntG.wr' rfl ?_ | refine Chk.mk (by omega) ?_ | (refine BrG.id ?_; first | with_reducible refine BrG.t ?_ | with_reducible refine BrG.f ?_ | with_reducible refine BrG.notG ?_ | with_reducible refine BrG.nn ?_ | with_reducible refine BrG.ns ?_ | refine BrG.pos (by omega) ?_ | refine BrG.neg (by omega) ?_) | refine Chk.mk (ptr_ok tblOk rfl rfl) ?_ | refine hS.ld rfl ?_ | refine hS.ldn rfl ?_ | (refine hS.st rfl rfl ?_; intro _ hS))
  have hS := hS0
  by_cases hoff : m.off = true
  · rw [if_pos hoff]
    refine BrG.eqt hoff ?_
    repeat (first | refine SemW.run tblOk ?_ | refine IntG.nw (by omega) ?_ | refine IntG.nu8 (by omega) ?_ | refine IntG.nu32 (by omega) ?_ | refine IntG.nu64 (by omega) ?_ | refine IntG.wr' rfl ?_ | refine Chk.mk (by omega) ?_ | (refine BrG.id ?_; first | with_reducible refine BrG.t ?_ | with_reducible refine BrG.f ?_ | with_reducible refine BrG.notG ?_ | with_reducible refine BrG.nn ?_ | with_reducible refine BrG.ns ?_ | refine BrG.pos (by omega) ?_ | refine BrG.neg (by omega) ?_) | refine Chk.mk (ptr_ok tblOk rfl rfl) ?_)
    exact ⟨rfl, L, hF, hS⟩
  · have hoff' : m.off = false := by simpa using hoff
    rw [if_neg hoff]
    refine BrG.eqf hoff' ?_
    repeat (first | refine SemW.run tblOk ?_ | refine IntG.nw (by omega) ?_ | refine IntG.nu8 (by omega) ?_ | refine IntG.nu32 (by omega) ?_ | refine IntG.nu64 (by omega) ?_ | refine IntG.wr' rfl ?_ | refine Chk.mk (by omega) ?_ | (refine BrG.id ?_; first | with_reducible refine BrG.t ?_ | with_reducible refine BrG.f ?_ | with_reducible refine BrG.notG ?_ | with_reducible refine BrG.nn ?_ | with_reducible refine BrG.ns ?_ | refine BrG.pos (by omega) ?_ | refine BrG.neg (by omega) ?_) | refine Chk.mk (ptr_ok tblOk rfl rfl) ?_)
    refine (named_spec name).mono ?_
    rintro _ w1 ⟨rfl, hS'⟩
    have hS := hS.call0 hS'
    repeat (first | refine SemW.run tblOk ?_ | refine IntG.nw (by omega) ?_ | refine IntG.nu8 (by omega) ?_ | refine IntG.nu32 (by omega) ?_ | refine IntG.nu64 (by omega) ?_ | refine IntG.wr' rfl ?_ | refine Chk.mk (by omega) ?_ | (refine BrG.id ?_; first | with_reducible refine BrG.t ?_ | with_reducible refine BrG.f ?_ | with_reducible refine BrG.notG ?_ | with_reducible refine BrG.nn ?_ | with_reducible refine BrG.ns ?_ | refine BrG.pos (by omega) ?_ | refine BrG.neg (by omega) ?_) | refine Chk.mk (ptr_ok tblOk rfl rfl) ?_)
    by_cases hnm : named name = true
    · refine BrG.eqt hnm ?_
      rw [hnm]
      repeat (first | refine SemW.run tblOk ?_ | refine IntG.nw (by omega) ?_ | refine IntG.nu8 (by omega) ?_ | refine IntG.nu32 (by omega) ?_ | refine IntG.nu64 (by omega) ?_ | refine IntG.wr' rfl ?_ | refine Chk.mk (by omega) ?_ | (refine BrG.id ?_; first | with_reducible refine BrG.t ?_ | with_reducible refine BrG.f ?_ | with_reducible refine BrG.notG ?_ | with_reducible refine BrG.nn ?_ | with_reducible refine BrG.ns ?_ | refine BrG.pos (by omega) ?_ | refine BrG.neg (by omega) ?_) | refine Chk.mk (ptr_ok tblOk rfl rfl) ?_)
      refine (act_spec hF hS.holds h1 h2).mono ?_
      rintro _ w2 ⟨rfl, L1, hF1, hS'⟩
      have hS := hS.call hS'
      repeat (first | refine SemW.run tblOk ?_ | refine IntG.nw (by omega) ?_ | refine IntG.nu8 (by omega) ?_ | refine IntG.nu32 (by omega) ?_ | refine IntG.nu64 (by omega) ?_ | refine IntG.wr' rfl ?_ | refine Chk.mk (by omega) ?_ | (refine BrG.id ?_; first | with_reducible refine BrG.t ?_ | with_reducible refine BrG.f ?_ | with_reducible refine BrG.notG ?_ | with_reducible refine BrG.nn ?_ | with_reducible refine BrG.ns ?_ | refine BrG.pos (by omega) ?_ | refine BrG.neg (by omega) ?_) | refine Chk.mk (ptr_ok tblOk rfl rfl) ?_)
      by_cases h3 : fateOf m = 3
      · rw [if_neg (by simp), if_pos h3]
        repeat (first | refine SemW.run tblOk ?_ | refine IntG.nw (by omega) ?_ | refine IntG.nu8 (by omega) ?_ | refine IntG.nu32 (by omega) ?_ | refine IntG.nu64 (by omega) ?_ | refine IntG.wr' rfl ?_ | refine Chk.mk (by omega) ?_ | (refine BrG.id ?_; first | with_reducible refine BrG.t ?_ | with_reducible refine BrG.f ?_ | with_reducible refine BrG.notG ?_ | with_reducible refine BrG.nn ?_ | with_reducible refine BrG.ns ?_ | refine BrG.pos (by omega) ?_ | refine BrG.neg (by omega) ?_) | refine Chk.mk (ptr_ok tblOk rfl rfl) ?_)
        exact ⟨rfl, L1, hF1, hS⟩
      · rw [if_neg (by simp), if_neg h3]
        repeat (first | refine SemW.run tblOk ?_ | refine IntG.nw (by omega) ?_ | refine IntG.nu8 (by omega) ?_ | refine IntG.nu32 (by omega) ?_ | refine IntG.nu64 (by omega) ?_ | refine IntG.wr' rfl ?_ | refine Chk.mk (by omega) ?_ | (refine BrG.id ?_; first | with_reducible refine BrG.t ?_ | with_reducible refine BrG.f ?_ | with_reducible refine BrG.notG ?_ | with_reducible refine BrG.nn ?_ | with_reducible refine BrG.ns ?_ | refine BrG.pos (by omega) ?_ | refine BrG.neg (by omega) ?_) | refine Chk.mk (ptr_ok tblOk rfl rfl) ?_)
        by_cases h4 : fateOf m = 1
        · rw [if_pos h4]
          repeat (first | refine SemW.run tblOk ?_ | refine IntG.nw (by omega) ?_ | refine IntG.nu8 (by omega) ?_ | refine IntG.nu32 (by omega) ?_ | refine IntG.nu64 (by omega) ?_ | refine IntG.wr' rfl ?_ | refine Chk.mk (by omega) ?_ | (refine BrG.id ?_; first | with_reducible refine BrG.t ?_ | with_reducible refine BrG.f ?_ | with_reducible refine BrG.notG ?_ | with_reducible refine BrG.nn ?_ | with_reducible refine BrG.ns ?_ | refine BrG.pos (by omega) ?_ | refine BrG.neg (by omega) ?_) | refine Chk.mk (ptr_ok tblOk rfl rfl) ?_)
          exact ⟨rfl, L1, hF1, hS⟩
        · rw [if_neg h4]
          obtain ⟨x, hx⟩ : ∃ x, (fget m name).getD ([], 0) = x := ⟨_, rfl⟩
          rw [hx] at hlen ⊢
          obtain ⟨mf1, es1, c1, hes1, ft1, Lf1, hf1⟩ := hF1
          have ha0 := ha
          generalize keys L = T0 at hS ha0 ⊢
          generalize hac : (acted m).off = off1 at hS ⊢
          repeat (first | refine SemW.run tblOk ?_ | refine IntG.nw (by omega) ?_ | refine IntG.nu8 (by omega) ?_ | refine IntG.nu32 (by omega) ?_ | refine IntG.nu64 (by omega) ?_ | refine IntG.wr' rfl ?_ | refine Chk.mk (by omega) ?_ | (refine BrG.id ?_; first | with_reducible refine BrG.t ?_ | with_reducible refine BrG.f ?_ | with_reducible refine BrG.notG ?_ | with_reducible refine BrG.nn ?_ | with_reducible refine BrG.ns ?_ | refine BrG.pos (by omega) ?_ | refine BrG.neg (by omega) ?_) | refine Chk.mk (ptr_ok tblOk rfl rfl) ?_ | refine hS.ld rfl ?_ | refine hS.ldn rfl ?_ | (refine hS.st rfl rfl ?_; intro _ hS))
          refine lookupFile (fun w' hw' => ⟨es1, c1, by subst hw'; exact hS.mem (b := mf1), hes1.of⟩) ?_
          rw [show (kget name (acted m).files).getD ([], 0) = x from hx]
          repeat (first | refine SemW.run tblOk ?_ | refine IntG.nw (by omega) ?_ | refine IntG.nu8 (by omega) ?_ | refine IntG.nu32 (by omega) ?_ | refine IntG.nu64 (by omega) ?_ | refine IntG.wr' rfl ?_ | refine Chk.mk (by omega) ?_ | (refine BrG.id ?_; first | with_reducible refine BrG.t ?_ | with_reducible refine BrG.f ?_ | with_reducible refine BrG.notG ?_ | with_reducible refine BrG.nn ?_ | with_reducible refine BrG.ns ?_ | refine BrG.pos (by omega) ?_ | refine BrG.neg (by omega) ?_) | refine Chk.mk (ptr_ok tblOk rfl rfl) ?_)
          refine hS.al ?_
          intro r w3 _ hS
          repeat (first | refine SemW.run tblOk ?_ | refine IntG.nw (by omega) ?_ | refine IntG.nu8 (by omega) ?_ | refine IntG.nu32 (by omega) ?_ | refine IntG.nu64 (by omega) ?_ | refine IntG.wr' rfl ?_ | refine Chk.mk (by omega) ?_ | (refine BrG.id ?_; first | with_reducible refine BrG.t ?_ | with_reducible refine BrG.f ?_ | with_reducible refine BrG.notG ?_ | with_reducible refine BrG.nn ?_ | with_reducible refine BrG.ns ?_ | refine BrG.pos (by omega) ?_ | refine BrG.neg (by omega) ?_) | refine Chk.mk (ptr_ok tblOk rfl rfl) ?_ | refine hS.ld rfl ?_ | refine hS.ldn rfl ?_ | (refine hS.st rfl rfl ?_; intro _ hS))
          refine SemW.draw tblOk mixed (fun w' => St w T0 ((r, .cells ⟨[Str x.1, .int .i64 x.2]⟩ T_vfs_file (0, 0)) :: (b, .cells ⟨[.map ft1, .int .i64 (acted m).armed, .int .i64 (acted m).acts, .bool off1, .map (some mf1)]⟩ T_vfs_FS (0, 0)) :: (mf1, .map es1 c1) :: Lf1) w')
            [6] [0, 1, 2, 3, 4, 5, 6] (by kernel_rfl) hS.drew ?_
          have hS := hS.drew
          repeat (first | refine SemW.run tblOk ?_ | refine IntG.nw (by omega) ?_ | refine IntG.nu8 (by omega) ?_ | refine IntG.nu32 (by omega) ?_ | refine IntG.nu64 (by omega) ?_ | refine IntG.wr' rfl ?_ | refine Chk.mk (by omega) ?_ | (refine BrG.id ?_; first | with_reducible refine BrG.t ?_ | with_reducible refine BrG.f ?_ | with_reducible refine BrG.notG ?_ | with_reducible refine BrG.nn ?_ | with_reducible refine BrG.ns ?_ | refine BrG.pos (by omega) ?_ | refine BrG.neg (by omega) ?_) | refine Chk.mk (ptr_ok tblOk rfl rfl) ?_ | refine hS.ldC rfl ?_ | refine hS.ldnC rfl ?_)
          refine (Join_spec (sep := []) ((hS.arrOld ha0).sub (by simp)) hc hcc (by simp; omega)).mono ?_
          rintro _ w4 ⟨rfl, hS'⟩
          have hS := hS.call0 hS'
          refine Chk.mk hS ?_
          rw [joinB_nil]
          refine Chk.mk (by rw [show ps.flatten.length = sumLen ps from by simp [sumLen, List.length_flatten]]; omega) ?_
          repeat (first | refine SemW.run tblOk ?_ | refine IntG.nw (by omega) ?_ | refine IntG.nu8 (by omega) ?_ | refine IntG.nu32 (by omega) ?_ | refine IntG.nu64 (by omega) ?_ | refine IntG.wr' rfl ?_ | refine Chk.mk (by omega) ?_ | (refine BrG.id ?_; first | with_reducible refine BrG.t ?_ | with_reducible refine BrG.f ?_ | with_reducible refine BrG.notG ?_ | with_reducible refine BrG.nn ?_ | with_reducible refine BrG.ns ?_ | refine BrG.pos (by omega) ?_ | refine BrG.neg (by omega) ?_) | refine Chk.mk (ptr_ok tblOk rfl rfl) ?_ | refine hS.ld rfl ?_ | refine hS.ldn rfl ?_ | (refine hS.st rfl rfl ?_; intro _ hS))
          refine SemW.draw tblOk mixed (fun w' => St w T0 ((r, .cells ⟨[Str (x.1 ++ ps.flatten), .int .i64 x.2]⟩ T_vfs_file (0, 0)) :: (b, .cells ⟨[.map ft1, .int .i64 (acted m).armed, .int .i64 (acted m).acts, .bool off1, .map (some mf1)]⟩ T_vfs_FS (0, 0)) :: (mf1, .map es1 c1) :: Lf1) w')
            [6] [0, 1, 2, 3, 4, 5, 6] (by kernel_rfl) hS.drew ?_
          have hS := hS.drew
          repeat (first | refine SemW.run tblOk ?_ | refine IntG.nw (by omega) ?_ | refine IntG.nu8 (by omega) ?_ | refine IntG.nu32 (by omega) ?_ | refine IntG.nu64 (by omega) ?_ | refine IntG.wr' rfl ?_ | refine Chk.mk (by omega) ?_ | (refine BrG.id ?_; first | with_reducible refine BrG.t ?_ | with_reducible refine BrG.f ?_ | with_reducible refine BrG.notG ?_ | with_reducible refine BrG.nn ?_ | with_reducible refine BrG.ns ?_ | refine BrG.pos (by omega) ?_ | refine BrG.neg (by omega) ?_) | refine Chk.mk (ptr_ok tblOk rfl rfl) ?_ | refine hS.ldC rfl ?_ | refine hS.ldnC rfl ?_)
          refine St.mapSet tblOk KEnc.str rfl rfl und_str hS (v := (x.1 ++ ps.flatten, x.2)) hes1 ?_
          intro es2 c2 w5 hes2 hS
          have hS := hS.sub (List.sublist_cons_self _ _)
          repeat (first | refine SemW.run tblOk ?_ | refine IntG.nw (by omega) ?_ | refine IntG.nu8 (by omega) ?_ | refine IntG.nu32 (by omega) ?_ | refine IntG.nu64 (by omega) ?_ | refine IntG.wr' rfl ?_ | refine Chk.mk (by omega) ?_ | (refine BrG.id ?_; first | with_reducible refine BrG.t ?_ | with_reducible refine BrG.f ?_ | with_reducible refine BrG.notG ?_ | with_reducible refine BrG.nn ?_ | with_reducible refine BrG.ns ?_ | refine BrG.pos (by omega) ?_ | refine BrG.neg (by omega) ?_) | refine Chk.mk (ptr_ok tblOk rfl rfl) ?_)
          have hF2 := FSo.mk (b := b) (m := { acted m with files := kput name (x.1 ++ ps.flatten, x.2) m.files }) mf1 es2 c2 hes2 ft1 Lf1 hf1
          subst hac
          refine (done_spec hF2 hS.holds).mono ?_
          rintro _ w6 ⟨rfl, hS'⟩
          have hS := hS.call hS'
          repeat (first | refine SemW.run tblOk ?_ | refine IntG.nw (by omega) ?_ | refine IntG.nu8 (by omega) ?_ | refine IntG.nu32 (by omega) ?_ | refine IntG.nu64 (by omega) ?_ | refine IntG.wr' rfl ?_ | refine Chk.mk (by omega) ?_ | (refine BrG.id ?_; first | with_reducible refine BrG.t ?_ | with_reducible refine BrG.f ?_ | with_reducible refine BrG.notG ?_ | with_reducible refine BrG.nn ?_ | with_reducible refine BrG.ns ?_ | refine BrG.pos (by omega) ?_ | refine BrG.neg (by omega) ?_) | refine Chk.mk (ptr_ok tblOk rfl rfl) ?_)
          exact ⟨rfl, _, hF2, hS⟩
    · have hnm' : named name = false := by simpa using hnm
      refine BrG.eqf hnm' ?_
      rw [hnm']
      repeat (first | refine SemW.run tblOk ?_ | refine IntG.nw (by omega) ?_ | refine IntG.nu8 (by omega) ?_ | refine IntG.nu32 (by omega) ?_ | refine IntG.nu64 (by omega) ?_ | refine IntG.wr' rfl ?_ | refine Chk.mk (by omega) ?_ | (refine BrG.id ?_; first | with_reducible refine BrG.t ?_ | with_reducible refine BrG.f ?_ | with_reducible refine BrG.notG ?_ | with_reducible refine BrG.nn ?_ | with_reducible refine BrG.ns ?_ | refine BrG.pos (by omega) ?_ | refine BrG.neg (by omega) ?_) | refine Chk.mk (ptr_ok tblOk rfl rfl) ?_)
      exact ⟨rfl, L, hF, hS⟩

/-- Sync. -/
def syncM (m : FSm) (name : Bytes) : Int × FSm :=
  if (findM m name).2 ≠ 0 then ((findM m name).2, m)
  else (if (acted m).off then 7 else 0, if fateOf m = 1 then acted m else { acted m with files := kput name ((findM m name).1.1, (findM m name).1.1.length) m.files })

set_option maxHeartbeats 1000000 in
theorem Sync_spec {w : World} {b : Nat} {m : FSm} {L : Heap} (hF : FSo b m L) (hh : Holds L w) (name : Bytes) (h1 : m.armed + 1 ≤ 9223372036854775807) (h2 : m.acts + 1 ≤ 9223372036854775807) :
    Cl Try.prog f_vfs_FS_Sync [ptr b, Str name] w fun v w' => v = .int .i64 (syncM m name).1 ∧ ∃ L', FSo b (syncM m name).2 L' ∧ St w (keys L) L' w' := by
  refine en_vfs_FS_Sync rfl ?_
  unfold syncM
  repeat (first | refine SemW.run tblOk ?_ | refine IntG.nw (by omega) ?_ | refine IntG.nu8 (by omega) ?_ | refine IntG.nu32 (by omega) ?_ | refine IntG.nu64 (by omega) ?_ | refine IntG.wr' rfl ?_ | refine Chk.mk (by omega) ?_ | (refine BrG.id ?_; first | with_reducible refine BrG.t ?_ | with_reducible refine BrG.f ?_ | with_reducible refine BrG.notG ?_ | with_reducible refine BrG.nn ?_ | with_reducible refine BrG.ns ?_ | refine BrG.pos (by omega) ?_ | refine BrG.neg (by omega) ?_) | refine Chk.mk (ptr_ok tblOk rfl rfl) ?_)
  refine (find_spec hF hh name).mono ?_
  rintro _ w1 ⟨rfl, hS⟩
  generalize findM m name = y
  obtain ⟨x, e⟩ := y
  repeat (first | refine SemW.run tblOk ?_ | refine IntG.nw (by omega) ?_ | refine IntG.nu8 (by omega) ?_ | refine IntG.nu32 (by omega) ?_ | refine IntG.nu64 (by omega) ?_ | refine IntG.wr' rfl ?_ | refine Chk.mk (by omega) ?_ | (refine BrG.id ?_; first | with_reducible refine BrG.t ?_ | with_reducible refine BrG.f ?_ | with_reducible refine BrG.notG ?_ | with_reducible refine BrG.nn ?_ | with_reducible refine BrG.ns ?_ | refine BrG.pos (by omega) ?_ | refine BrG.neg (by omega) ?_) | refine Chk.mk (ptr_ok tblOk rfl rfl) ?_)
  refine hS.al ?_
  intro r w2 _ hS
  repeat (first | refine SemW.run tblOk ?_ | refine IntG.nw (by omega) ?_ | refine IntG.nu8 (by omega) ?_ | refine IntG.nu32 (by omega) ?_ | refine IntG.nu64 (by omega) ?_ | refine IntG.wr' rfl ?_ | refine Chk.mk (by omega) ?_ | (refine BrG.id ?_; first | with_reducible refine BrG.t ?_ | with_reducible refine BrG.f ?_ | with_reducible refine BrG.notG ?_ | with_reducible refine BrG.nn ?_ | with_reducible refine BrG.ns ?_ | refine BrG.pos (by omega) ?_ | refine BrG.neg (by omega) ?_) | refine Chk.mk (ptr_ok tblOk rfl rfl) ?_ | refine hS.ld rfl ?_ | refine hS.ldn rfl ?_ | (refine hS.st rfl rfl ?_; intro _ hS))
  by_cases he : e = 0
  · subst he
    rw [if_neg (by simp)]
    repeat (first | refine SemW.run tblOk ?_ | refine IntG.nw (by omega) ?_ | refine IntG.nu8 (by omega) ?_ | refine IntG.nu32 (by omega) ?_ | refine IntG.nu64 (by omega) ?_ | refine IntG.wr' rfl ?_ | refine Chk.mk (by omega) ?_ | (refine BrG.id ?_; first | with_reducible refine BrG.t ?_ | with_reducible refine BrG.f ?_ | with_reducible refine BrG.notG ?_ | with_reducible refine BrG.nn ?_ | with_reducible refine BrG.ns ?_ | refine BrG.pos (by omega) ?_ | refine BrG.neg (by omega) ?_) | refine Chk.mk (ptr_ok tblOk rfl rfl) ?_)
    refine (act_spec hF (hS.part (L := L)) h1 h2).mono ?_
    rintro _ w3 ⟨rfl, L1, hF1, hS'⟩
    have hS := hS.call (L := L) hS'
    generalize keys L = T0 at hS ⊢
    by_cases h4 : fateOf m = 1
    · rw [if_pos h4]
      repeat (first | refine SemW.run tblOk ?_ | refine IntG.nw (by omega) ?_ | refine IntG.nu8 (by omega) ?_ | refine IntG.nu32 (by omega) ?_ | refine IntG.nu64 (by omega) ?_ | refine IntG.wr' rfl ?_ | refine Chk.mk (by omega) ?_ | (refine BrG.id ?_; first | with_reducible refine BrG.t ?_ | with_reducible refine BrG.f ?_ | with_reducible refine BrG.notG ?_ | with_reducible refine BrG.nn ?_ | with_reducible refine BrG.ns ?_ | refine BrG.pos (by omega) ?_ | refine BrG.neg (by omega) ?_) | refine Chk.mk (ptr_ok tblOk rfl rfl) ?_)
      refine (done_spec hF1 (hS.part (L := L1))).mono ?_
      rintro _ w6 ⟨rfl, hS'⟩
      have hS := hS.call (L := L1) hS'
      repeat (first | refine SemW.run tblOk ?_ | refine IntG.nw (by omega) ?_ | refine IntG.nu8 (by omega) ?_ | refine IntG.nu32 (by omega) ?_ | refine IntG.nu64 (by omega) ?_ | refine IntG.wr' rfl ?_ | refine Chk.mk (by omega) ?_ | (refine BrG.id ?_; first | with_reducible refine BrG.t ?_ | with_reducible refine BrG.f ?_ | with_reducible refine BrG.notG ?_ | with_reducible refine BrG.nn ?_ | with_reducible refine BrG.ns ?_ | refine BrG.pos (by omega) ?_ | refine BrG.neg (by omega) ?_) | refine Chk.mk (ptr_ok tblOk rfl rfl) ?_)
      exact ⟨rfl, _, hF1, hS.sub (List.sublist_cons_self _ _)⟩
    · rw [if_neg h4]
      obtain ⟨mf1, es1, c1, hes1, ft1, Lf1, hf1⟩ := hF1
      generalize hac : (acted m).off = off1 at hS ⊢
      repeat (first | refine SemW.run tblOk ?_ | refine IntG.nw (by omega) ?_ | refine IntG.nu8 (by omega) ?_ | refine IntG.nu32 (by omega) ?_ | refine IntG.nu64 (by omega) ?_ | refine IntG.wr' rfl ?_ | refine Chk.mk (by omega) ?_ | (refine BrG.id ?_; first | with_reducible refine BrG.t ?_ | with_reducible refine BrG.f ?_ | with_reducible refine BrG.notG ?_ | with_reducible refine BrG.nn ?_ | with_reducible refine BrG.ns ?_ | refine BrG.pos (by omega) ?_ | refine BrG.neg (by omega) ?_) | refine Chk.mk (ptr_ok tblOk rfl rfl) ?_ | refine hS.ld rfl ?_ | refine hS.ldn rfl ?_ | (refine hS.st rfl rfl ?_; intro _ hS))
      refine SemW.draw tblOk mixed (fun w' => St w T0 ((r, .cells ⟨[Str x.1, .int .i64 x.1.length]⟩ T_vfs_file (0, 0)) :: (b, .cells ⟨[.map ft1, .int .i64 (acted m).armed, .int .i64 (acted m).acts, .bool off1, .map (some mf1)]⟩ T_vfs_FS (0, 0)) :: (mf1, .map es1 c1) :: Lf1) w')
        [6] [0, 1, 2, 3, 4, 5, 6] (by kernel_rfl) hS.drew ?_
      have hS := hS.drew
      repeat (first | refine SemW.run tblOk ?_ | refine IntG.nw (by omega) ?_ | refine IntG.nu8 (by omega) ?_ | refine IntG.nu32 (by omega) ?_ | refine IntG.nu64 (by omega) ?_ | refine IntG.wr' rfl ?_ | refine Chk.mk (by omega) ?_ | (refine BrG.id ?_; first | with_reducible refine BrG.t ?_ | with_reducible refine BrG.f ?_ | with_reducible refine BrG.notG ?_ | with_reducible refine BrG.nn ?_ | with_reducible refine BrG.ns ?_ | refine BrG.pos (by omega) ?_ | refine BrG.neg (by omega) ?_) | refine Chk.mk (ptr_ok tblOk rfl rfl) ?_ | refine hS.ldC rfl ?_ | refine hS.ldnC rfl ?_)
      refine St.mapSet tblOk KEnc.str rfl rfl und_str hS (v := (x.1, x.1.length)) hes1 ?_
      intro es2 c2 w5 hes2 hS
      have hS := hS.sub (List.sublist_cons_self _ _)
      repeat (first | refine SemW.run tblOk ?_ | refine IntG.nw (by omega) ?_ | refine IntG.nu8 (by omega) ?_ | refine IntG.nu32 (by omega) ?_ | refine IntG.nu64 (by omega) ?_ | refine IntG.wr' rfl ?_ | refine Chk.mk (by omega) ?_ | (refine BrG.id ?_; first | with_reducible refine BrG.t ?_ | with_reducible refine BrG.f ?_ | with_reducible refine BrG.notG ?_ | with_reducible refine BrG.nn ?_ | with_reducible refine BrG.ns ?_ | refine BrG.pos (by omega) ?_ | refine BrG.neg (by omega) ?_) | refine Chk.mk (ptr_ok tblOk rfl rfl) ?_)
      have hF2 := FSo.mk (b := b) (m := { acted m with files := kput name (x.1, x.1.length) m.files }) mf1 es2 c2 hes2 ft1 Lf1 hf1
      subst hac
      refine (done_spec hF2 hS.holds).mono ?_
      rintro _ w6 ⟨rfl, hS'⟩
      have hS := hS.call hS'
      repeat (first | refine SemW.run tblOk ?_ | refine IntG.nw (by omega) ?_ | refine IntG.nu8 (by omega) ?_ | refine IntG.nu32 (by omega) ?_ | refine IntG.nu64 (by omega) ?_ | refine IntG.wr' rfl ?_ | refine Chk.mk (by omega) ?_ | (refine BrG.id ?_; first | with_reducible refine BrG.t ?_ | with_reducible refine BrG.f ?_ | with_reducible refine BrG.notG ?_ | with_reducible refine BrG.nn ?_ | with_reducible refine BrG.ns ?_ | refine BrG.pos (by omega) ?_ | refine BrG.neg (by omega) ?_) | refine Chk.mk (ptr_ok tblOk rfl rfl) ?_)
      exact ⟨rfl, _, hF2, hS⟩
  · rw [if_pos he]
    repeat (first | refine SemW.run tblOk ?_ | refine IntG.nw (by omega) ?_ | refine IntG.nu8 (by omega) ?_ | refine IntG.nu32 (by omega) ?_ | refine IntG.nu64 (by omega) ?_ | refine IntG.wr' rfl ?_ | refine Chk.mk (by omega) ?_ | (refine BrG.id ?_; first | with_reducible refine BrG.t ?_ | with_reducible refine BrG.f ?_ | with_reducible refine BrG.notG ?_ | with_reducible refine BrG.nn ?_ | with_reducible refine BrG.ns ?_ | refine BrG.pos (by omega) ?_ | refine BrG.neg (by omega) ?_) | refine Chk.mk (ptr_ok tblOk rfl rfl) ?_)
    exact ⟨rfl, L, hF, hS.sub (List.sublist_cons_self _ _)⟩
end Go.Proofs.Ytnmmiiffeenjbaa
