/- vfs.FS.names: the names of all files, ascending. -/
import Derived.Test.YtnmmiiffeenjbaaIter
import Derived.Test.YtnmmiiffeenjbaaVfs
import Derived.Maps.Own
namespace Go.Proofs.Ytnmmiiffeenjbaa
open Go Go.Eng Go.Proofs
open Go.RowKit (Below)

/-- The value of an element is not looked at. -/
abbrev noR : Value → Option (DataW Unit × List MemPlace) := fun _ => some (.nil, [])
theorem rd_str {P : Program} {k : TypeId} (hk : P.underlying k = some .string) {x : MapEntry} {s : Bytes} (hx : x.key = Str s) (hs : s.length ≤ maxLen) : Go.WideElems.rd P k noR x = some (.string s, .nil) := by
  have hsz : (ByteArray.mk ⟨s⟩).size ≤ maxLen := by simpa [ByteArray.size] using hs
  have h1 := Go.WideMaps.keyOf_string_mk hk hsz
  unfold Go.WideElems.rd
  rw [hx]
  show (keyOf P k (.string ⟨⟨s⟩⟩)).bind _ = _
  rw [h1]; rfl
theorem owns_of {α : Type} {P : Program} {k : TypeId} (hk : P.underlying k = some .string) {w : World} {m : Nat} {es : Array MapEntry} {c : Nat} (hm : w.heap[m]? = some (.map es c)) {val : α → Value} {kvs : List (Bytes × α)} (h : MapC Str val es c kvs)
    (hl : kvs.length ≤ maxLen) (hs : ∀ x ∈ kvs, x.1.length ≤ maxLen) :
    ∃ D : DataW Unit, w.ownsMap P k noR m kvs.length D ∧ (strKeys D).Perm (kvs.map (·.1)) ∧ Maps.size D = kvs.length := by
  have hkeys := h.of.keys KEnc.str
  have hlen : es.size = kvs.length := by have := congrArg List.length hkeys; simpa using this
  have hr : ∀ x ∈ es.toList, ∃ s, x.key = Str s ∧ s.length ≤ maxLen := by
    intro x hx
    have : x.key ∈ es.toList.map (·.key) := List.mem_map_of_mem hx
    rw [hkeys] at this
    obtain ⟨y, hy, hye⟩ := List.mem_map.1 this
    exact ⟨y.1, hye.symm, hs y hy⟩
  have hmap : (es.toList.map (Go.WideElems.rg P k noR)).map (fun p => strOf p.1) = kvs.map (·.1) := by
    have e1 : (es.toList.map (Go.WideElems.rg P k noR)).map (fun p => Str (strOf p.1)) = es.toList.map (·.key) := by
      rw [List.map_map]
      apply List.map_congr_left
      intro x hx
      obtain ⟨s, hxs, hss⟩ := hr x hx
      simp only [Function.comp_def, Go.WideElems.rg, rd_str hk hxs hss, Option.getD_some, strOf, hxs]
    rw [hkeys] at e1
    have inj : ∀ l1 l2 : List Bytes, l1.map Str = l2.map Str → l1 = l2 := by
      intro l1
      induction l1 with
      | nil => intro l2 h; cases l2 with | nil => rfl | cons => simp at h
      | cons a l1 ih =>
        intro l2 h
        cases l2 with
        | nil => simp at h
        | cons b l2 =>
          simp only [List.map_cons, List.cons.injEq] at h
          rw [KEnc.str.inj h.1, ih l2 h.2]
    apply inj
    simp only [List.map_map, Function.comp_def] at e1 ⊢
    exact e1
  refine ⟨_, ⟨es, c, hm, ⟨by omega, h.st, fun x hx => ?_⟩, by omega, rfl⟩, ?_, ?_⟩
  · obtain ⟨s, hxs, hss⟩ := hr x hx
    exact ⟨_, rd_str hk hxs hss⟩
  · show ((List.foldr DataW.insert [] (es.toList.map (Go.WideElems.rg P k noR))).map fun p => strOf p.1).Perm _
    rw [← hmap]
    exact (Go.WideShapes.sorted_perm _).map _
  · show (List.foldr DataW.insert [] (es.toList.map (Go.WideElems.rg P k noR))).length = _
    rw [(Go.WideShapes.sorted_perm _).length_eq]
    simp [hlen]

abbrev keysF (b : Nat) : Value := .func (.func f_maps_Keys_map_string_vfs_file_string_vfs_file_1) #[] #[.pointer (some ⟨b, 0, none⟩)]
theorem keysCl (mb : Option Nat) (w : World) : Cl Try.prog f_maps_Keys_map_string_vfs_file_string_vfs_file [.map mb] w fun v w' => v = keysF w.heap.size ∧ w' = w.alloc (.cells #[.map mb] T_map_string_vfs_file) := by
  refine .inl ⟨Try.callKeys _ _, Calls.mono (callsIn_wide.1 (Try.mapsKeys mb w)) ?_⟩
  rintro e w' ⟨rfl, rfl⟩
  exact ⟨_, rfl, rfl, rfl⟩
theorem vec_of_owns {e : TypeId} {W w' : World} {v : Value} {n : Nat} {xs : List Value} (h : w'.ownsRow W.heap.size e 1 v n xs) (hb : Below W.heap.size W w') : ∃ a cap Lv, v = .slice a n cap ∧ Vec e 1 a n cap xs Lv ∧ St W [] Lv w' := by
  have hst : ∀ Lv : Heap, (∀ p ∈ Lv, w'.heap[p.1]? = some p.2) → (keys Lv).Nodup → (∀ p ∈ Lv, W.heap.size ≤ p.1) → St W [] Lv w' := fun Lv h1 h2 h3 =>
    ⟨hb.os, hb.tape, hb.output, hb.size, fun b hlt _ => hb.block b hlt, h1, h2, fun p hp hlt => absurd hlt (Nat.not_lt.2 (h3 p hp))⟩
  obtain ⟨hl, ⟨rfl, rfl⟩ | ⟨g, cap, cur, rfl, hg, hcell, hn, _, hsz, htk⟩⟩ := h
  · have : xs = [] := by cases xs with | nil => rfl | cons => simp at hl
    subst this
    exact ⟨none, 0, [], rfl, Vec.nil, hst [] (by simp) (by simp [keys]) (by simp)⟩
  · have e1 : cur = ⟨xs ++ cur.toList.drop (n * 1)⟩ := by
      rw [← htk, List.take_append_drop]
    refine ⟨_, cap, [(g, .cells ⟨xs ++ cur.toList.drop (n * 1)⟩ e (0, 0))], rfl, Vec.row g n cap xs _ hl ?_ hn, hst _ ?_ (by simp [keys]) ?_⟩
    · have : cur.toList.length = cap * 1 := by simpa using hsz
      rw [List.length_drop]; omega
    · intro p hp
      rw [List.mem_singleton] at hp; subst hp
      show w'.heap[g]? = some (.cells ⟨xs ++ cur.toList.drop (n * 1)⟩ e (0, 0))
      rw [hcell, ← e1]
    · intro p hp
      rw [List.mem_singleton] at hp; subst hp
      exact hg
theorem sortedCl {α : Type} {w : World} {m : Nat} {es : Array MapEntry} {c : Nat} (hm : w.heap[m]? = some (.map es c)) {val : α → Value} {kvs : List (Bytes × α)} (h : MapC Str val es c kvs) (hl : kvs.length ≤ 1099511627776) (hs : ∀ x ∈ kvs, x.1.length ≤ maxLen) :
    Cl Try.prog f_slices_Sorted_string [keysF w.heap.size] (w.alloc (.cells #[.map (some m)] T_map_string_vfs_file)) fun v w' => ∃ (ns : List Bytes) (a : Option Addr) (cap : Nat) (Lv : Heap), ns.Perm (kvs.map (·.1)) ∧ v = .slice a ns.length cap ∧ Vec T_string 1 a ns.length cap (ns.map Str) Lv ∧
      St (w.alloc (.cells #[.map (some m)] T_map_string_vfs_file)) [] Lv w' := by
  have hmx : 1099511627776 ≤ maxLen := by decide
  obtain ⟨D, ho, hp, hsz⟩ := owns_of (k := T_string) (und_of tblOk (t := T_string) rfl) hm h (by omega) hs
  refine .inl ⟨Try.callSorted _ _, Calls.mono (callsIn_wide.1 (Try.sortedKeys m kvs.length D noR w ho (by rw [hsz]; omega) (by rw [hsz]; omega))) ?_⟩
  rintro e w' ⟨v, ss, rfl, hS, hrow, -, hb⟩
  have hl2 : (ss.mergeSort (fun x y => decide (x ≤ y))).length = ss.length := (List.mergeSort_perm ss _).length_eq
  rw [← hl2] at hrow
  obtain ⟨a, cap, Lv, rfl, hv, hst⟩ := vec_of_owns hrow hb
  exact ⟨_, rfl, _, a, cap, Lv, ((List.mergeSort_perm ss _).trans hS).trans hp, rfl, hv, hst⟩

set_option maxHeartbeats 1000000 in
theorem names_spec {w : World} {b : Nat} {m : FSm} {L : Heap} (hF : FSo b m L) (hh : Holds L w) (hl : m.files.length ≤ 1099511627776) (hs : ∀ x ∈ m.files, x.1.length ≤ maxLen) :
    Cl Try.prog f_vfs_FS_names [ptr b] w fun v w' => ∃ (ns : List Bytes) (a : Option Addr) (cap : Nat) (Lv : Heap), ns.Perm (m.files.map (·.1)) ∧ v = .slice a ns.length cap ∧ Vec T_string 1 a ns.length cap (ns.map Str) Lv ∧ St w (keys L) (Lv ++ L) w' := by
  have hS := St.enter hh
  obtain ⟨mf, es, c, hes, ft, Lf, hf⟩ := hF
  refine en_vfs_FS_names rfl ?_
  repeat (first | refine SemW.run tblOk ?_ | refine IntG.nw (by omega) ?_ | refine IntG.nu8 (by omega) ?_ | refine IntG.nu32 (by omega) ?_ | refine IntG.nu64 (by omega) ?_ | refine IntG.wr' rfl ?_ | refine Chk.mk (by omega) ?_ | (refine BrG.id ?_; first | with_reducible refine BrG.t ?_ | with_reducible refine BrG.f ?_ | with_reducible refine BrG.notG ?_ | with_reducible refine BrG.nn ?_ | with_reducible refine BrG.ns ?_ | refine BrG.pos (by omega) ?_ | refine BrG.neg (by omega) ?_) | refine Chk.mk (ptr_ok tblOk rfl rfl) ?_ | refine hS.ld rfl ?_ | refine hS.ldn rfl ?_ | (refine hS.st rfl rfl ?_; intro _ hS))
  refine (keysCl _ _).mono ?_
  rintro _ w1 ⟨rfl, rfl⟩
  have hmf := hS.mem (b := mf)
  have hS := hS.alloc (.cells #[.map (some mf)] T_map_string_vfs_file)
  repeat (first | refine SemW.run tblOk ?_ | refine IntG.nw (by omega) ?_ | refine IntG.nu8 (by omega) ?_ | refine IntG.nu32 (by omega) ?_ | refine IntG.nu64 (by omega) ?_ | refine IntG.wr' rfl ?_ | refine Chk.mk (by omega) ?_ | (refine BrG.id ?_; first | with_reducible refine BrG.t ?_ | with_reducible refine BrG.f ?_ | with_reducible refine BrG.notG ?_ | with_reducible refine BrG.nn ?_ | with_reducible refine BrG.ns ?_ | refine BrG.pos (by omega) ?_ | refine BrG.neg (by omega) ?_) | refine Chk.mk (ptr_ok tblOk rfl rfl) ?_)
  refine (sortedCl hmf hes hl hs).mono ?_
  rintro _ w2 ⟨ns, a, cap, Lv, hp, rfl, hv, hS'⟩
  have hS := hS.callNew hS'
  repeat (first | refine SemW.run tblOk ?_ | refine IntG.nw (by omega) ?_ | refine IntG.nu8 (by omega) ?_ | refine IntG.nu32 (by omega) ?_ | refine IntG.nu64 (by omega) ?_ | refine IntG.wr' rfl ?_ | refine Chk.mk (by omega) ?_ | (refine BrG.id ?_; first | with_reducible refine BrG.t ?_ | with_reducible refine BrG.f ?_ | with_reducible refine BrG.notG ?_ | with_reducible refine BrG.nn ?_ | with_reducible refine BrG.ns ?_ | refine BrG.pos (by omega) ?_ | refine BrG.neg (by omega) ?_) | refine Chk.mk (ptr_ok tblOk rfl rfl) ?_)
  exact ⟨ns, a, cap, Lv, hp, rfl, hv, hS.sub (List.Sublist.append (List.Sublist.refl _) (List.sublist_cons_self _ _))⟩
end Go.Proofs.Ytnmmiiffeenjbaa
