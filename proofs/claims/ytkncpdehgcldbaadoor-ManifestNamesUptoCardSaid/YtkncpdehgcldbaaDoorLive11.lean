/- tarmaclaw11.lives. -/
import Derived.Test.YtkncpdehgcldbaaDoorApp11
import Derived.Test.YtkncpdehgcldbaaDoorItoa
namespace Go.Proofs.YtkncpdehgcldbaaDoor
open Go Go.Eng Go.Proofs Go.Srt
/-- Edits in a block of the call's own. -/
theorem RSl.own {β : Type} {sz : Nat} {R : CellR β} {w0 w : World} {T : List Nat} {H : Heap} {g : Nat} {t : TypeId} {fz : Nat × Nat} {css : List (List Value)} {tail : List Value} {F : Obj → Heap} (hS : St w0 T H w) [Slot H g (.cells ⟨css.flatten ++ tail⟩ t fz) F] {xs : List β} {cap : Nat}
    (hl : css.length = xs.length) (hc : ∀ c ∈ css, c.length = sz) (hR : ∀ j (h1 : j < css.length) (h2 : j < xs.length), R w css[j] xs[j]) (hcap : xs.length ≤ cap) (hm : cap ≤ maxLen) : RSl sz R w [.slice (some ⟨g, 0, none⟩) xs.length cap] xs := by
  refine ⟨some ⟨g, 0, none⟩, cap, rfl, hcap, hm, fun j hj => ?_⟩
  have hj' : j < css.length := by omega
  refine ⟨g, 0, css[j], rfl, hc _ (List.getElem_mem hj'), fun i v hv => ?_, hR j hj' hj⟩
  refine hS.cell ?_
  have hfl : ∀ (l : List (List Value)) (j i : Nat) (v : Value) (hj : j < l.length), (∀ c ∈ l, c.length = sz) → l[j][i]? = some v → (l.flatten ++ tail)[j * sz + i]? = some v := by
    intro l
    induction l with
    | nil => intro j i v hj; simp at hj
    | cons c l ih =>
      intro j i v hj hc hv
      have hcl := hc c (by simp)
      cases j with
      | zero =>
        simp only [List.getElem_cons_zero] at hv
        rw [Nat.zero_mul, Nat.zero_add, List.flatten_cons, List.append_assoc, List.getElem?_append_left (List.getElem?_eq_some_iff.1 hv).1]
        exact hv
      | succ j =>
        simp only [List.getElem_cons_succ] at hv
        rw [List.flatten_cons, List.append_assoc, Nat.succ_mul, List.getElem?_append_right (by omega), show j * sz + sz + i - c.length = j * sz + i by omega]
        exact ih j i v (by simpa using hj) (fun c h => hc c (by simp [h])) hv
  rw [Nat.zero_add]
  exact hfl css j i v hj' hc hv
theorem addLen_sum (es : List EM) : addLen es + es.length ≤ (es.map fun e => 3 * e.add.length + e.del.length + 6).sum := by
  unfold addLen
  induction es with
  | nil => simp
  | cons e es ih => simp only [List.map_cons, List.sum_cons, List.length_cons]; omega
theorem Table12_spec {w : World} : Cl Tryd.prog f_manifest_Table [.int .i64 12] w fun v w' => v = Str [116, 49, 50] ∧ St w [] [] w' := by
  have hS := St.start w
  refine en_manifest_Table rfl ?_
  repeat (first | refine SemW.run tblOk ?_ | refine IntG.nw (by omega) ?_ | refine IntG.nu8 (by omega) ?_ | refine IntG.nu32 (by omega) ?_ | refine IntG.nu64 (by omega) ?_ | refine IntG.wr' rfl ?_ | refine Chk.mk (by omega) ?_ | (refine BrG.id ?_; first | with_reducible refine BrG.t ?_ | with_reducible refine BrG.f ?_ | with_reducible refine BrG.notG ?_ | with_reducible refine BrG.nn ?_ | with_reducible refine BrG.ns ?_ | refine BrG.pos (by omega) ?_ | refine BrG.neg (by omega) ?_ | with_reducible refine BrG.pos rfl ?_ | refine BrG.pos (by assumption) ?_ | refine BrG.neg (by assumption) ?_ | refine BrG.pos (by decide) ?_ | refine BrG.neg (by decide) ?_) | refine Chk.mk (ptr_ok tblOk rfl rfl) ?_ | refine Chk.mk (by decide) ?_)
  refine Cl.mono (Itoa_spec 12 (by decide)) ?_
  rintro _ w1 ⟨rfl, hS'⟩
  have hS := hS.call0 hS'
  repeat (first | refine SemW.run tblOk ?_ | refine IntG.nw (by omega) ?_ | refine IntG.nu8 (by omega) ?_ | refine IntG.nu32 (by omega) ?_ | refine IntG.nu64 (by omega) ?_ | refine IntG.wr' rfl ?_ | refine Chk.mk (by omega) ?_ | (refine BrG.id ?_; first | with_reducible refine BrG.t ?_ | with_reducible refine BrG.f ?_ | with_reducible refine BrG.notG ?_ | with_reducible refine BrG.nn ?_ | with_reducible refine BrG.ns ?_ | refine BrG.pos (by omega) ?_ | refine BrG.neg (by omega) ?_ | with_reducible refine BrG.pos rfl ?_ | refine BrG.pos (by assumption) ?_ | refine BrG.neg (by assumption) ?_ | refine BrG.pos (by decide) ?_ | refine BrG.neg (by decide) ?_) | refine Chk.mk (ptr_ok tblOk rfl rfl) ?_ | refine Chk.mk (by decide) ?_)
  exact ⟨rfl, hS⟩
def liveE1 : EM := ⟨[(0, 1)], [], 2, 3, 4⟩
def liveE2 : EM := ⟨[(1, 3)], [1], 2, 4, 4⟩
theorem live_law : applyAll (sortV zeroV) [liveE1, liveE2] = some ⟨[(1, 3)], 2, 4, 4⟩ := by rfl
set_option maxHeartbeats 8000000 in
theorem lives_spec {w : World} : Cl Tryd.prog f_tarmaclaw11_lives [] w fun v w' => v = .bool true ∧ St w [] [] w' := by
  have hS := St.start w
  refine en_tarmaclaw11_lives rfl ?_
  repeat (first | refine SemW.run tblOk ?_ | refine IntG.nw (by omega) ?_ | refine IntG.nu8 (by omega) ?_ | refine IntG.nu32 (by omega) ?_ | refine IntG.nu64 (by omega) ?_ | refine IntG.wr' rfl ?_ | refine Chk.mk (by omega) ?_ | (refine BrG.id ?_; first | with_reducible refine BrG.t ?_ | with_reducible refine BrG.f ?_ | with_reducible refine BrG.notG ?_ | with_reducible refine BrG.nn ?_ | with_reducible refine BrG.ns ?_ | refine BrG.pos (by omega) ?_ | refine BrG.neg (by omega) ?_ | with_reducible refine BrG.pos rfl ?_ | refine BrG.pos (by assumption) ?_ | refine BrG.neg (by assumption) ?_ | refine BrG.pos (by decide) ?_ | refine BrG.neg (by decide) ?_) | refine Chk.mk (ptr_ok tblOk rfl rfl) ?_ | refine Chk.mk (by decide) ?_)
  refine hS.al ?_
  intro r1 w1 _ hS
  repeat (first | refine SemW.run tblOk ?_ | refine IntG.nw (by omega) ?_ | refine IntG.nu8 (by omega) ?_ | refine IntG.nu32 (by omega) ?_ | refine IntG.nu64 (by omega) ?_ | refine IntG.wr' rfl ?_ | refine Chk.mk (by omega) ?_ | (refine BrG.id ?_; first | with_reducible refine BrG.t ?_ | with_reducible refine BrG.f ?_ | with_reducible refine BrG.notG ?_ | with_reducible refine BrG.nn ?_ | with_reducible refine BrG.ns ?_ | refine BrG.pos (by omega) ?_ | refine BrG.neg (by omega) ?_ | with_reducible refine BrG.pos rfl ?_ | refine BrG.pos (by assumption) ?_ | refine BrG.neg (by assumption) ?_ | refine BrG.pos (by decide) ?_ | refine BrG.neg (by decide) ?_) | refine Chk.mk (ptr_ok tblOk rfl rfl) ?_ | refine Chk.mk (by decide) ?_)
  refine hS.al ?_
  intro r2 w2 _ hS
  repeat (first | refine SemW.run tblOk ?_ | refine IntG.nw (by omega) ?_ | refine IntG.nu8 (by omega) ?_ | refine IntG.nu32 (by omega) ?_ | refine IntG.nu64 (by omega) ?_ | refine IntG.wr' rfl ?_ | refine Chk.mk (by omega) ?_ | (refine BrG.id ?_; first | with_reducible refine BrG.t ?_ | with_reducible refine BrG.f ?_ | with_reducible refine BrG.notG ?_ | with_reducible refine BrG.nn ?_ | with_reducible refine BrG.ns ?_ | refine BrG.pos (by omega) ?_ | refine BrG.neg (by omega) ?_ | with_reducible refine BrG.pos rfl ?_ | refine BrG.pos (by assumption) ?_ | refine BrG.neg (by assumption) ?_ | refine BrG.pos (by decide) ?_ | refine BrG.neg (by decide) ?_) | refine Chk.mk (ptr_ok tblOk rfl rfl) ?_ | refine Chk.mk (by decide) ?_)
  refine hS.al ?_
  intro r3 w3 _ hS
  repeat (first | refine SemW.run tblOk ?_ | refine IntG.nw (by omega) ?_ | refine IntG.nu8 (by omega) ?_ | refine IntG.nu32 (by omega) ?_ | refine IntG.nu64 (by omega) ?_ | refine IntG.wr' rfl ?_ | refine Chk.mk (by omega) ?_ | (refine BrG.id ?_; first | with_reducible refine BrG.t ?_ | with_reducible refine BrG.f ?_ | with_reducible refine BrG.notG ?_ | with_reducible refine BrG.nn ?_ | with_reducible refine BrG.ns ?_ | refine BrG.pos (by omega) ?_ | refine BrG.neg (by omega) ?_ | with_reducible refine BrG.pos rfl ?_ | refine BrG.pos (by assumption) ?_ | refine BrG.neg (by assumption) ?_ | refine BrG.pos (by decide) ?_ | refine BrG.neg (by decide) ?_) | refine Chk.mk (ptr_ok tblOk rfl rfl) ?_ | refine Chk.mk (by decide) ?_)
  refine hS.al ?_
  intro r4 w4 _ hS
  have ha1 : Arr w4 [] (some ⟨r1, 0, none⟩) (liveE1.add.flatMap fileC) := by have := hS.arr (b := r1) (T' := []) (by simp); exact this
  have ha2 : Arr w4 [] (some ⟨r2, 0, none⟩) (liveE2.add.flatMap fileC) := by have := hS.arr (b := r2) (T' := []) (by simp); exact this
  have ha3 : Arr w4 [] (some ⟨r3, 0, none⟩) (liveE2.del.map intV) := by have := hS.arr (b := r3) (T' := []) (by simp); exact this
  have he1 : EditAt w4 (some ⟨r1, 0, none⟩) none 1 0 liveE1 := ⟨⟨ha1, by decide⟩, Arr.nil _ _ _, by decide, by decide, by decide⟩
  have he2 : EditAt w4 (some ⟨r2, 0, none⟩) (some ⟨r3, 0, none⟩) 1 1 liveE2 := ⟨⟨ha2, by decide⟩, ha3, by decide, by decide, by decide⟩
  have hes : RSl 5 REditA w4 [.slice (some ⟨r4, 0, none⟩) 2 2] [liveE1, liveE2] := by
    have hS : St w [] ((r4, .cells ⟨[editC (some ⟨r1, 0, none⟩) none 1 0 liveE1, editC (some ⟨r2, 0, none⟩) (some ⟨r3, 0, none⟩) 1 1 liveE2].flatten ++ []⟩ T_api_Edit (0, 0)) :: (r3, .cells ⟨[.int .i64 1]⟩ T_int (0, 0)) :: (r2, .cells ⟨[.int .i64 1, .int .i64 3]⟩ T_api_File (0, 0)) :: (r1, .cells ⟨[.int .i64 0, .int .i64 1]⟩ T_api_File (0, 0)) :: []) w4 := hS
    refine RSl.own (xs := [liveE1, liveE2]) hS rfl (by simp [editC]) (fun j h1 h2 => ?_) (Nat.le_refl _) (by decide)
    match j, h1 with
    | 0, _ => exact ⟨_, _, _, _, rfl, he1⟩
    | 1, _ => exact ⟨_, _, _, _, rfl, he2⟩
  have hz : VersAt w4 none 0 zeroV := ⟨FilesAt.nil _, by decide⟩
  repeat (first | refine SemW.run tblOk ?_ | refine IntG.nw (by omega) ?_ | refine IntG.nu8 (by omega) ?_ | refine IntG.nu32 (by omega) ?_ | refine IntG.nu64 (by omega) ?_ | refine IntG.wr' rfl ?_ | refine Chk.mk (by omega) ?_ | (refine BrG.id ?_; first | with_reducible refine BrG.t ?_ | with_reducible refine BrG.f ?_ | with_reducible refine BrG.notG ?_ | with_reducible refine BrG.nn ?_ | with_reducible refine BrG.ns ?_ | refine BrG.pos (by omega) ?_ | refine BrG.neg (by omega) ?_ | with_reducible refine BrG.pos rfl ?_ | refine BrG.pos (by assumption) ?_ | refine BrG.neg (by assumption) ?_ | refine BrG.pos (by decide) ?_ | refine BrG.neg (by decide) ?_) | refine Chk.mk (ptr_ok tblOk rfl rfl) ?_ | refine Chk.mk (by decide) ?_)
  have hA := Apply_spec (es := [liveE1, liveE2]) hz hes (by decide) (by decide)
  have hA : Cl Tryd.prog f_manifest_Apply [.agg ⟨[.slice none 0 0, .int .i64 0, .int .i64 0, .int .i64 0]⟩, .slice (some ⟨r4, 0, none⟩) 2 2] w4 fun r w' => ApplyAllPost (applyAll (sortV zeroV) [liveE1, liveE2]) r w4 w' := hA
  rw [live_law] at hA
  refine hA.mono ?_
  intro r w5 hpost
  obtain ⟨a1, c1, L1, rfl, hv1, hS'⟩ := hpost
  have hS := hS.callNew hS'
  unfold versC
  repeat (first | refine SemW.run tblOk ?_ | refine IntG.nw (by omega) ?_ | refine IntG.nu8 (by omega) ?_ | refine IntG.nu32 (by omega) ?_ | refine IntG.nu64 (by omega) ?_ | refine IntG.wr' rfl ?_ | refine Chk.mk (by omega) ?_ | (refine BrG.id ?_; first | with_reducible refine BrG.t ?_ | with_reducible refine BrG.f ?_ | with_reducible refine BrG.notG ?_ | with_reducible refine BrG.nn ?_ | with_reducible refine BrG.ns ?_ | refine BrG.pos (by omega) ?_ | refine BrG.neg (by omega) ?_ | with_reducible refine BrG.pos rfl ?_ | refine BrG.pos (by assumption) ?_ | refine BrG.neg (by assumption) ?_ | refine BrG.pos (by decide) ?_ | refine BrG.neg (by decide) ?_) | refine Chk.mk (ptr_ok tblOk rfl rfl) ?_ | refine Chk.mk (by decide) ?_)
  refine hS.al ?_
  intro b1 w6 _ hS
  repeat (first | refine SemW.run tblOk ?_ | refine IntG.nw (by omega) ?_ | refine IntG.nu8 (by omega) ?_ | refine IntG.nu32 (by omega) ?_ | refine IntG.nu64 (by omega) ?_ | refine IntG.wr' rfl ?_ | refine Chk.mk (by omega) ?_ | (refine BrG.id ?_; first | with_reducible refine BrG.t ?_ | with_reducible refine BrG.f ?_ | with_reducible refine BrG.notG ?_ | with_reducible refine BrG.nn ?_ | with_reducible refine BrG.ns ?_ | refine BrG.pos (by omega) ?_ | refine BrG.neg (by omega) ?_ | with_reducible refine BrG.pos rfl ?_ | refine BrG.pos (by assumption) ?_ | refine BrG.neg (by assumption) ?_ | refine BrG.pos (by decide) ?_ | refine BrG.neg (by decide) ?_) | refine Chk.mk (ptr_ok tblOk rfl rfl) ?_ | refine Chk.mk (by decide) ?_ | refine hS.ld rfl ?_ | refine hS.ldn rfl ?_ | (refine hS.st rfl rfl ?_; intro _ hS))
  refine hS.al ?_
  intro b2 w7 _ hS
  repeat (first | refine SemW.run tblOk ?_ | refine IntG.nw (by omega) ?_ | refine IntG.nu8 (by omega) ?_ | refine IntG.nu32 (by omega) ?_ | refine IntG.nu64 (by omega) ?_ | refine IntG.wr' rfl ?_ | refine Chk.mk (by omega) ?_ | (refine BrG.id ?_; first | with_reducible refine BrG.t ?_ | with_reducible refine BrG.f ?_ | with_reducible refine BrG.notG ?_ | with_reducible refine BrG.nn ?_ | with_reducible refine BrG.ns ?_ | refine BrG.pos (by omega) ?_ | refine BrG.neg (by omega) ?_ | with_reducible refine BrG.pos rfl ?_ | refine BrG.pos (by assumption) ?_ | refine BrG.neg (by assumption) ?_ | refine BrG.pos (by decide) ?_ | refine BrG.neg (by decide) ?_) | refine Chk.mk (ptr_ok tblOk rfl rfl) ?_ | refine Chk.mk (by decide) ?_ | refine hS.ld rfl ?_ | refine hS.ldn rfl ?_ | (refine hS.st rfl rfl ?_; intro _ hS))
  have hf1 : FilesAt w7 a1 c1 [(1, 3)] := filesAt_vec hS hv1.vec
  have hf2 : FilesAt w7 (some ⟨b2, 0, none⟩) 1 [(1, 3)] := ⟨by have := hS.arr (b := b2) (T' := []) (by simp); exact this, by decide⟩
  refine (SameFiles_spec hf1 hf2 (by decide)).mono ?_
  rintro _ w8 ⟨rfl, hS'⟩
  have hS := hS.call0 hS'
  rw [decide_eq_true rfl]
  repeat (first | refine SemW.run tblOk ?_ | refine IntG.nw (by omega) ?_ | refine IntG.nu8 (by omega) ?_ | refine IntG.nu32 (by omega) ?_ | refine IntG.nu64 (by omega) ?_ | refine IntG.wr' rfl ?_ | refine Chk.mk (by omega) ?_ | (refine BrG.id ?_; first | with_reducible refine BrG.t ?_ | with_reducible refine BrG.f ?_ | with_reducible refine BrG.notG ?_ | with_reducible refine BrG.nn ?_ | with_reducible refine BrG.ns ?_ | refine BrG.pos (by omega) ?_ | refine BrG.neg (by omega) ?_ | with_reducible refine BrG.pos rfl ?_ | refine BrG.pos (by assumption) ?_ | refine BrG.neg (by assumption) ?_ | refine BrG.pos (by decide) ?_ | refine BrG.neg (by decide) ?_) | refine Chk.mk (ptr_ok tblOk rfl rfl) ?_ | refine Chk.mk (by decide) ?_ | refine hS.ld rfl ?_ | refine hS.ldn rfl ?_ | (refine hS.st rfl rfl ?_; intro _ hS))
  refine Table12_spec.mono ?_
  rintro _ w9 ⟨rfl, hS'⟩
  have hS := hS.call0 hS'
  repeat (first | refine SemW.run tblOk ?_ | refine IntG.nw (by omega) ?_ | refine IntG.nu8 (by omega) ?_ | refine IntG.nu32 (by omega) ?_ | refine IntG.nu64 (by omega) ?_ | refine IntG.wr' rfl ?_ | refine Chk.mk (by omega) ?_ | (refine BrG.id ?_; first | with_reducible refine BrG.t ?_ | with_reducible refine BrG.f ?_ | with_reducible refine BrG.notG ?_ | with_reducible refine BrG.nn ?_ | with_reducible refine BrG.ns ?_ | refine BrG.pos (by omega) ?_ | refine BrG.neg (by omega) ?_ | with_reducible refine BrG.pos rfl ?_ | refine BrG.pos (by assumption) ?_ | refine BrG.neg (by assumption) ?_ | refine BrG.pos (by decide) ?_ | refine BrG.neg (by decide) ?_) | refine Chk.mk (ptr_ok tblOk rfl rfl) ?_ | refine Chk.mk (by decide) ?_ | refine hS.ld rfl ?_ | refine hS.ldn rfl ?_ | (refine hS.st rfl rfl ?_; intro _ hS))
  exact ⟨rfl, hS.nil⟩
theorem VersAt.keep {w0 w : World} {H : Heap} (hS : St w0 [] H w) {a : Option Addr} {c : Nat} {v : VM} (h : VersAt w0 a c v) : VersAt w a c v := ⟨h.files.keep hS, h.rng⟩
def VersI (w : World) (a : Option Addr) (c : Nat) (v : VM) (L : Heap) : Prop := (L = [] ∧ VersAt w a c v) ∨ VersV a c v L
theorem VersI.at {w0 w : World} {H L : Heap} {F : Heap → Heap} {a : Option Addr} {c : Nat} {v : VM} (h : VersI w0 a c v L) (hS : St w0 [] H w) [hc : Chunk H L F] : VersAt w a c v := by
  rcases h with ⟨-, h⟩ | h
  · exact h.keep hS
  · exact h.at hS
theorem applyAll_one (v : VM) (e : EM) : applyAll (sortV v) [e] = applyM v e := by
  unfold applyAll
  rw [applyM_sort]
  cases applyM v e <;> rfl
def errI (A : Option VM) : Int := match A with
  | none => 11
  | some _ => 0
theorem VersV.zero : VersV none 0 zeroV [] := ⟨Vec.nil, by decide⟩
theorem ApplyAllPost.out {A : Option VM} {r : Value} {w w' : World} (h : ApplyAllPost A r w w') : ∃ a' c' L, r = .tuple ⟨[.agg ⟨versC a' c' (A.getD zeroV)⟩, .int .i64 (errI A)]⟩ ∧ VersV a' c' (A.getD zeroV) L ∧ St w [] L w' := by
  cases A with
  | none => obtain ⟨h1, h2⟩ := h; exact ⟨_, _, [], h1, VersV.zero, h2⟩
  | some v => exact h
theorem applyAll_len : ∀ (es : List EM) (v v' : VM), applyAll v es = some v' → v'.files.length ≤ v.files.length + addLen es
  | [], v, v', h => by cases h; exact Nat.le_add_right _ _
  | e :: es, v, v', h => by
    unfold applyAll at h
    cases ha : applyM v e with
    | none => rw [ha] at h; cases h
    | some u =>
      rw [ha] at h
      have h1 := applyAll_len es u v' h
      have h2 := applyM_len ha
      have h3 : addLen (e :: es) = e.add.length + addLen es := rfl
      omega
end Go.Proofs.YtkncpdehgcldbaaDoor
