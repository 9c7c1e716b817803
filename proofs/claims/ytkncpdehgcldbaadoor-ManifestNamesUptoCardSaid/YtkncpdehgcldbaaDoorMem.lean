import Derived.Test.YtkncpdehgcldbaaDoorEng
namespace Go.Eng
open Go

abbrev Heap := List (Nat × Obj)
def keys (H : Heap) : List Nat := H.map (·.1)

/-- Since w0: old blocks that are not in T are as they were; the blocks of H hold what H says, all distinct, each in T or new. -/
structure St (w0 : World) (T : List Nat) (H : Heap) (w : World) : Prop where
  os : w.os = w0.os
  tape : w.tape = w0.tape
  output : w.output = w0.output
  size : w0.heap.size ≤ w.heap.size
  old : ∀ b, b < w0.heap.size → b ∉ T → w.heap[b]? = w0.heap[b]?
  own : ∀ p ∈ H, w.heap[p.1]? = some p.2
  nd : (keys H).Nodup
  fresh : ∀ p ∈ H, p.1 < w0.heap.size → p.1 ∈ T

/-- The blocks of L, all distinct, lie in w. -/
structure Holds (L : Heap) (w : World) : Prop where
  own : ∀ p ∈ L, w.heap[p.1]? = some p.2
  nd : (keys L).Nodup
theorem Holds.nil (w : World) : Holds [] w := ⟨by simp, by simp [keys]⟩
theorem St.enter {L : Heap} {w : World} (h : Holds L w) : St w (keys L) L w :=
  ⟨rfl, rfl, rfl, Nat.le_refl _, fun _ _ _ => rfl, h.own, h.nd, fun p hp _ => by simp only [keys]; exact List.mem_map_of_mem hp⟩
theorem St.start (w : World) : St w [] [] w := St.enter (Holds.nil w)
theorem St.holds {w0 : World} {T : List Nat} {H : Heap} {w : World} (h : St w0 T H w) : Holds H w := ⟨h.own, h.nd⟩
theorem St.lt {w0 : World} {T : List Nat} {H : Heap} {w : World} (h : St w0 T H w) {p : Nat × Obj} (hp : p ∈ H) : p.1 < w.heap.size :=
  (Array.getElem?_eq_some_iff.1 (h.own p hp)).1

/-! ### Places in a heap -/
/-- Block b holds o in H; F o' is H with o' there. -/
class Slot (H : Heap) (b : Nat) (o : outParam Obj) (F : outParam (Obj → Heap)) : Prop where
  at_ : ∃ A B, H = A ++ (b, o) :: B ∧ ∀ o', F o' = A ++ (b, o') :: B
instance Slot.head {b : Nat} {o : Obj} {H : Heap} : Slot ((b, o) :: H) b o (fun o' => (b, o') :: H) := ⟨[], H, rfl, fun _ => rfl⟩
instance (priority := low) Slot.tail {b : Nat} {o : Obj} {H : Heap} {F : Obj → Heap} {x : Nat × Obj} [h : Slot H b o F] : Slot (x :: H) b o (fun o' => x :: F o') := by
  obtain ⟨A, B, h1, h2⟩ := h.at_
  exact ⟨x :: A, B, by rw [h1]; rfl, fun o' => by rw [h2]; rfl⟩
instance Slot.left {b : Nat} {o : Obj} {H G : Heap} {F : Obj → Heap} [h : Slot H b o F] : Slot (H ++ G) b o (fun o' => F o' ++ G) := by
  obtain ⟨A, B, h1, h2⟩ := h.at_
  exact ⟨A, B ++ G, by rw [h1]; simp, fun o' => by rw [h2]; simp⟩
instance (priority := low) Slot.right {b : Nat} {o : Obj} {H G : Heap} {F : Obj → Heap} [h : Slot G b o F] : Slot (H ++ G) b o (fun o' => H ++ F o') := by
  obtain ⟨A, B, h1, h2⟩ := h.at_
  exact ⟨H ++ A, B, by rw [h1]; simp, fun o' => by rw [h2]; simp⟩

/-- L stands in H as one piece; F L' is H with L' there. -/
class Chunk (H : Heap) (L : Heap) (F : outParam (Heap → Heap)) : Prop where
  at_ : ∃ A B, H = A ++ (L ++ B) ∧ ∀ L', F L' = A ++ (L' ++ B)
instance (priority := 3000) Chunk.self {L : Heap} : Chunk L L (fun L' => L') := ⟨[], [], by simp, by simp⟩
instance (priority := 2000) Chunk.front {L B : Heap} : Chunk (L ++ B) L (fun L' => L' ++ B) := ⟨[], B, rfl, fun _ => rfl⟩
instance (priority := 1500) Chunk.one {x : Nat × Obj} {B : Heap} : Chunk (x :: B) [x] (fun L' => L' ++ B) := ⟨[], B, rfl, fun _ => rfl⟩
instance Chunk.two {x y : Nat × Obj} {B : Heap} : Chunk (x :: y :: B) [x, y] (fun L' => L' ++ B) := ⟨[], B, rfl, fun _ => rfl⟩
instance Chunk.three {x y z : Nat × Obj} {B : Heap} : Chunk (x :: y :: z :: B) [x, y, z] (fun L' => L' ++ B) := ⟨[], B, rfl, fun _ => rfl⟩
instance (priority := low) Chunk.tail {x : Nat × Obj} {H L : Heap} {F : Heap → Heap} [h : Chunk H L F] : Chunk (x :: H) L (fun L' => x :: F L') := by
  obtain ⟨A, B, h1, h2⟩ := h.at_
  exact ⟨x :: A, B, by rw [h1]; rfl, fun o' => by rw [h2]; rfl⟩
instance Chunk.left {H G L : Heap} {F : Heap → Heap} [h : Chunk H L F] : Chunk (H ++ G) L (fun L' => F L' ++ G) := by
  obtain ⟨A, B, h1, h2⟩ := h.at_
  exact ⟨A, B ++ G, by rw [h1]; simp, fun o' => by rw [h2]; simp⟩
instance (priority := low) Chunk.right {H G L : Heap} {F : Heap → Heap} [h : Chunk G L F] : Chunk (H ++ G) L (fun L' => H ++ F L') := by
  obtain ⟨A, B, h1, h2⟩ := h.at_
  exact ⟨H ++ A, B, by rw [h1]; simp, fun o' => by rw [h2]; simp⟩

section
variable {w0 : World} {T : List Nat} {H : Heap} {w : World}

theorem St.mem {b : Nat} {o : Obj} {F : Obj → Heap} (hS : St w0 T H w) [hs : Slot H b o F] : w.heap[b]? = some o := by
  obtain ⟨A, B, h1, _⟩ := hs.at_
  exact hS.own (b, o) (by rw [h1]; simp)

theorem St.cell {b off : Nat} {l : List Value} {t : TypeId} {fz : Nat × Nat} {F : Obj → Heap} (hS : St w0 T H w) [Slot H b (.cells ⟨l⟩ t fz) F] {v : Value} (hv : l[off]? = some v) :
    w.cell? ⟨b, off, none⟩ = some v := by
  have := hS.mem (b := b) (o := .cells ⟨l⟩ t fz)
  simp only [World.cell?, this]
  simpa using hv

/-- A load from an owned block. -/
theorem St.ld {b off : Nat} {l : List Value} {t : TypeId} {fz : Nat × Nat} {F : Obj → Heap} (hS : St w0 T H w) [Slot H b (.cells ⟨l⟩ t fz) F] {v : Value} (hv : l[off]? = some v)
    {K : Value → Prop} (hk : K v) : LdC (fun w' => w = w') ⟨b, off, none⟩ K :=
  ⟨⟨v, fun _ e => by subst e; exact hS.cell hv, hk⟩⟩
theorem St.ldn {n b off : Nat} {l : List Value} {t : TypeId} {fz : Nat × Nat} {F : Obj → Heap} (hS : St w0 T H w) [Slot H b (.cells ⟨l⟩ t fz) F] (hn : Nat.ble (off + n) l.length = true)
    {K : List Value → Prop} (hk : forceL ((l.drop off).take n) K) : LdN (fun w' => w = w') n b off K := by
  have hle := Nat.le_of_ble_eq_true hn
  refine ⟨⟨_, by simp; omega, fun _ e j v hv => ?_, (forceL_iff _ _).1 hk⟩⟩
  subst e
  refine hS.cell ?_
  rw [List.getElem?_take] at hv
  split at hv
  · rw [List.getElem?_drop] at hv; exact hv
  · cases hv
/-- A load from memory that was there at the beginning. -/
theorem St.oldBlock (hS : St w0 T H w) {b : Nat} (hb : b ∉ T) {o : Obj} (h : w0.heap[b]? = some o) : w.heap[b]? = some o := by
  rw [hS.old b (Array.getElem?_eq_some_iff.1 h).1 hb]; exact h
theorem St.oldCell (hS : St w0 T H w) {a : Addr} (hb : a.block ∉ T) {v : Value} (h : w0.cell? a = some v) : w.cell? a = some v := by
  rw [World.cell?_of_block (hS.old a.block (World.block_lt_of_cell? w0 a h) hb)]; exact h
theorem St.ldOld (hS : St w0 T H w) {a : Addr} (hb : a.block ∉ T) {v : Value} (h : w0.cell? a = some v) {K : Value → Prop} (hk : K v) : LdC (fun w' => w = w') a K :=
  ⟨⟨v, fun _ e => by subst e; exact hS.oldCell hb h, hk⟩⟩

/-- The same in every world that meets St. -/
theorem St.ldC {b off : Nat} {l : List Value} {t : TypeId} {fz : Nat × Nat} {F : Obj → Heap} (_hS : St w0 T H w) [Slot H b (.cells ⟨l⟩ t fz) F] {v : Value} (hv : l[off]? = some v)
    {K : Value → Prop} (hk : K v) : LdC (fun w' => St w0 T H w') ⟨b, off, none⟩ K :=
  ⟨⟨v, fun _ h => h.cell hv, hk⟩⟩
theorem St.ldnC {n b off : Nat} {l : List Value} {t : TypeId} {fz : Nat × Nat} {F : Obj → Heap} (_hS : St w0 T H w) [Slot H b (.cells ⟨l⟩ t fz) F] (hn : Nat.ble (off + n) l.length = true)
    {K : List Value → Prop} (hk : forceL ((l.drop off).take n) K) : LdN (fun w' => St w0 T H w') n b off K := by
  have hle := Nat.le_of_ble_eq_true hn
  refine ⟨⟨_, by simp; omega, fun _ h j v hv => ?_, (forceL_iff _ _).1 hk⟩⟩
  refine h.cell ?_
  rw [List.getElem?_take] at hv
  split at hv
  · rw [List.getElem?_drop] at hv; exact hv
  · cases hv
theorem St.ldOldC (_hS : St w0 T H w) {a : Addr} (hb : a.block ∉ T) {v : Value} (h : w0.cell? a = some v) {K : Value → Prop} (hk : K v) : LdC (fun w' => St w0 T H w') a K :=
  ⟨⟨v, fun _ h' => h'.oldCell hb h, hk⟩⟩

/-- A new block. -/
theorem St.alloc (hS : St w0 T H w) (o : Obj) : St w0 T ((w.heap.size, o) :: H) (w.alloc o) := by
  refine ⟨hS.os, hS.tape, hS.output, by simp; exact Nat.le_succ_of_le hS.size, fun b hb hT => ?_, fun p hp => ?_, ?_, fun p hp hlt => ?_⟩
  · rw [RowKit.Below.heap_alloc _ _ _ (Nat.lt_of_lt_of_le hb hS.size)]; exact hS.old b hb hT
  · rcases List.mem_cons.1 hp with rfl | hp
    · exact heap_alloc_new w o
    · rw [RowKit.Below.heap_alloc _ _ _ (hS.lt hp)]; exact hS.own p hp
  · simp only [keys, List.map_cons, List.nodup_cons]
    refine ⟨fun hm => ?_, hS.nd⟩
    obtain ⟨p, hp, he⟩ := List.mem_map.1 hm
    have := hS.lt hp
    omega
  · rcases List.mem_cons.1 hp with rfl | hp
    · have := hS.size; simp at hlt; omega
    · exact hS.fresh p hp hlt
theorem St.al (hS : St w0 T H w) {o : Obj} {K : Nat → World → Prop} (h : ∀ b w', w0.heap.size ≤ b → St w0 T ((b, o) :: H) w' → K b w') : AllG w o K :=
  ⟨h _ _ hS.size (hS.alloc o)⟩

theorem keys_mid (A B : Heap) (b : Nat) (o : Obj) : keys (A ++ (b, o) :: B) = keys A ++ b :: keys B := by simp [keys]

/-- Block b is given other contents, nothing else changes. -/
theorem St.setBlock {b : Nat} {o o' : Obj} {F : Obj → Heap} (hS : St w0 T H w) [hs : Slot H b o F] {w' : World} (h1 : w'.os = w.os) (h2 : w'.tape = w.tape) (h3 : w'.output = w.output)
    (h4 : w'.heap.size = w.heap.size) (h5 : ∀ k, k ≠ b → w'.heap[k]? = w.heap[k]?) (h6 : w'.heap[b]? = some o') : St w0 T (F o') w' := by
  obtain ⟨A, B, e1, e2⟩ := hs.at_
  have hmem : (b, o) ∈ H := by rw [e1]; simp
  have hkeys : keys (F o') = keys H := by rw [e2, e1, keys_mid, keys_mid]
  refine ⟨h1.trans hS.os, h2.trans hS.tape, h3.trans hS.output, by rw [h4]; exact hS.size, fun k hk hT => ?_, fun p hp => ?_, by rw [hkeys]; exact hS.nd, fun p hp hlt => ?_⟩
  · have hkb : k ≠ b := fun e => by subst e; exact hT (hS.fresh _ hmem hk)
    rw [h5 k hkb]; exact hS.old k hk hT
  · rw [e2] at hp
    have hnd := hS.nd
    rw [e1, keys_mid] at hnd
    rcases List.mem_append.1 hp with hp | hp
    · have hne : p.1 ≠ b := fun e => by
        have := (List.nodup_append.1 hnd).2.2 p.1 (by simp only [keys]; exact List.mem_map_of_mem hp) b (by simp)
        exact this e
      rw [h5 _ hne]; exact hS.own p (by rw [e1]; simp [hp])
    · rcases List.mem_cons.1 hp with rfl | hp
      · exact h6
      · have hne : p.1 ≠ b := fun e => by
          have := (List.nodup_cons.1 (List.nodup_append.1 hnd).2.1).1
          exact this (by rw [← e]; simp only [keys]; exact List.mem_map_of_mem hp)
        rw [h5 _ hne]; exact hS.own p (by rw [e1]; simp [hp])
  · have hk : p.1 ∈ keys H := by rw [← hkeys]; simp only [keys]; exact List.mem_map_of_mem hp
    obtain ⟨q, hq, he⟩ := List.mem_map.1 hk
    rw [← he]; exact hS.fresh q hq (by rw [he]; exact hlt)

theorem St.setRow {b : Nat} {l l' : List Value} {t : TypeId} {fz : Nat × Nat} {F : Obj → Heap} (hS : St w0 T H w) [hs : Slot H b (.cells ⟨l⟩ t fz) F] : St w0 T (F (.cells ⟨l'⟩ t fz)) (w.setRow b ⟨l'⟩) := by
  have hm := hS.mem (b := b) (o := .cells ⟨l⟩ t fz)
  refine hS.setBlock (b := b) (o := .cells ⟨l⟩ t fz) rfl rfl rfl (by simp [World.setRow]) (fun k hk => ?_) (setRow_heap w b _ _ _ _ hm)
  simp only [World.setRow, Array.getElem?_modify]
  rw [if_neg (Ne.symm hk)]

/-- A store into an owned block. -/
theorem St.st {b off : Nat} {vs l : List Value} {t : TypeId} {F : Obj → Heap} (hS : St w0 T H w) [Slot H b (.cells ⟨l⟩ t (0, 0)) F] (hv : vs.all Value.oneCell' = true) (hn : Nat.ble (off + vs.length) l.length = true)
    {K : World → Prop} (hk : putK l off vs fun l' => ∀ w', St w0 T (F (.cells ⟨l'⟩ t (0, 0))) w' → K w') : StG w b off vs K := by
  refine ⟨⟨l, t, (0, 0), hS.mem, .inl (Nat.zero_le _), Nat.le_of_ble_eq_true hn, fun v h => List.all_eq_true.1 hv v h, ?_⟩⟩
  exact (putK_iff _ _ _ _ hk).2 _ (hS.setRow (l := l))
/-- The same at a place that is no literal: one cell. -/
theorem St.stI {b off : Nat} {v : Value} {l : List Value} {t : TypeId} {F : Obj → Heap} (hS : St w0 T H w) [Slot H b (.cells ⟨l⟩ t (0, 0)) F] (hv : v.oneCell' = true) (hn : off < l.length)
    {K : World → Prop} (hk : ∀ w', St w0 T (F (.cells ⟨l.set off v⟩ t (0, 0))) w' → K w') : StG w b off [v] K := by
  refine ⟨⟨l, t, (0, 0), hS.mem, .inl (Nat.zero_le _), by simp; omega, fun x h => by simp at h; subst h; exact hv, ?_⟩⟩
  have e : splice l off [v] = l.set off v := by
    unfold splice
    rw [List.set_eq_take_append_cons_drop, if_pos hn]
    simp
  rw [e]
  exact hk _ (hS.setRow (l := l))

/-- One cell of a row of which a part is frozen. -/
theorem St.stIF {b off : Nat} {v : Value} {l : List Value} {t : TypeId} {fz : Nat × Nat} {F : Obj → Heap} (hS : St w0 T H w) [Slot H b (.cells ⟨l⟩ t fz) F] (hv : v.oneCell' = true) (hf : fz.2 ≤ off ∨ off + 1 ≤ fz.1) (hn : off < l.length)
    {K : World → Prop} (hk : ∀ w', St w0 T (F (.cells ⟨l.set off v⟩ t fz)) w' → K w') : StG w b off [v] K := by
  refine ⟨⟨l, t, fz, hS.mem, hf, by simp; omega, fun x h => by simp at h; subst h; exact hv, ?_⟩⟩
  have e : splice l off [v] = l.set off v := by
    unfold splice
    rw [List.set_eq_take_append_cons_drop, if_pos hn]
    simp
  rw [e]
  exact hk _ (hS.setRow (l := l))

/-- Entries are forgotten (only new blocks may be). -/
theorem St.sub {H' : Heap} (hS : St w0 T H w) (h : H'.Sublist H) : St w0 T H' w :=
  ⟨hS.os, hS.tape, hS.output, hS.size, hS.old, fun p hp => hS.own p (h.subset hp), hS.nd.sublist (h.map _), fun p hp => hS.fresh p (h.subset hp)⟩
theorem St.nil (hS : St w0 T H w) : St w0 T [] w := hS.sub (List.nil_sublist _)
theorem St.perm {H' : Heap} (hS : St w0 T H w) (h : H.Perm H') : St w0 T H' w :=
  ⟨hS.os, hS.tape, hS.output, hS.size, hS.old, fun p hp => hS.own p (h.mem_iff.2 hp), (h.map _).nodup_iff.1 hS.nd, fun p hp => hS.fresh p (h.mem_iff.2 hp)⟩

/-- What a callee may own. -/
theorem St.part {L : Heap} {F : Heap → Heap} (hS : St w0 T H w) [hc : Chunk H L F] : Holds L w := by
  obtain ⟨A, B, h1, _⟩ := hc.at_
  have hsub : L.Sublist H := by rw [h1]; exact (List.sublist_append_left L B).trans (List.sublist_append_right A _)
  exact ⟨fun p hp => hS.own p (hsub.subset hp), hS.nd.sublist (hsub.map _)⟩
/-- Behind a callee that owned L and hands back L'. -/
theorem St.call {L L' : Heap} {F : Heap → Heap} (hS : St w0 T H w) [hc : Chunk H L F] {w' : World} (h : St w (keys L) L' w') : St w0 T (F L') w' := by
  obtain ⟨A, B, h1, h2⟩ := hc.at_
  have hnd := hS.nd
  have hk : keys H = keys A ++ (keys L ++ keys B) := by rw [h1]; simp [keys]
  rw [hk] at hnd
  obtain ⟨ndA, ndLB, hdis⟩ := List.nodup_append.1 hnd
  obtain ⟨ndL, ndB, hdis2⟩ := List.nodup_append.1 ndLB
  have inA : ∀ p ∈ A, p ∈ H := fun p hp => by rw [h1]; simp [hp]
  have inB : ∀ p ∈ B, p ∈ H := fun p hp => by rw [h1]; simp [hp]
  have inL : ∀ p ∈ L, p ∈ H := fun p hp => by rw [h1]; simp [hp]
  have kA : ∀ p ∈ A, p.1 ∈ keys A := fun p hp => by simp only [keys]; exact List.mem_map_of_mem hp
  have kB : ∀ p ∈ B, p.1 ∈ keys B := fun p hp => by simp only [keys]; exact List.mem_map_of_mem hp
  have nAL : ∀ p ∈ A, p.1 ∉ keys L := fun p hp hm => hdis _ (kA p hp) _ (List.mem_append_left _ hm) rfl
  have nBL : ∀ p ∈ B, p.1 ∉ keys L := fun p hp hm => hdis2 _ hm _ (kB p hp) rfl
  -- where the keys of L' lie
  have kL' : ∀ p ∈ L', p.1 ∈ keys L ∨ w.heap.size ≤ p.1 := fun p hp => by
    rcases Nat.lt_or_ge p.1 w.heap.size with hlt | hge
    · exact .inl (h.fresh p hp hlt)
    · exact .inr hge
  rw [h2]
  refine ⟨h.os.trans hS.os, h.tape.trans hS.tape, h.output.trans hS.output, Nat.le_trans hS.size h.size, fun b hb hT => ?_, fun p hp => ?_, ?_, fun p hp hlt => ?_⟩
  · have hb' : b < w.heap.size := Nat.lt_of_lt_of_le hb hS.size
    have hbL : b ∉ keys L := fun hm => by
      obtain ⟨q, hq, he⟩ := List.mem_map.1 hm
      exact hT (he ▸ hS.fresh q (inL q hq) (by rw [he]; exact hb))
    rw [h.old b hb' hbL]; exact hS.old b hb hT
  · rcases List.mem_append.1 hp with hp | hp
    · rw [h.old _ (hS.lt (inA p hp)) (nAL p hp)]; exact hS.own p (inA p hp)
    · rcases List.mem_append.1 hp with hp | hp
      · exact h.own p hp
      · rw [h.old _ (hS.lt (inB p hp)) (nBL p hp)]; exact hS.own p (inB p hp)
  · have : keys (A ++ (L' ++ B)) = keys A ++ (keys L' ++ keys B) := by simp [keys]
    rw [this]
    refine List.nodup_append.2 ⟨ndA, List.nodup_append.2 ⟨h.nd, ndB, fun x hx y hy e => ?_⟩, fun x hx y hy e => ?_⟩
    · subst e
      obtain ⟨q, hq, rfl⟩ := List.mem_map.1 hx
      obtain ⟨r, hr, hre⟩ := List.mem_map.1 hy
      rcases kL' q hq with hL | hge
      · exact hdis2 _ hL _ hy rfl
      · have := hS.lt (inB r hr); omega
    · subst e
      obtain ⟨r, hr, rfl⟩ := List.mem_map.1 hx
      rcases List.mem_append.1 hy with hy | hy
      · obtain ⟨q, hq, hqe⟩ := List.mem_map.1 hy
        rcases kL' q hq with hL | hge
        · exact nAL r hr (by rw [← hqe]; exact hL)
        · have := hS.lt (inA r hr); omega
      · exact hdis _ (kA r hr) _ (List.mem_append_right _ hy) rfl
  · rcases List.mem_append.1 hp with hp | hp
    · exact hS.fresh p (inA p hp) hlt
    · rcases List.mem_append.1 hp with hp | hp
      · rcases kL' p hp with hL | hge
        · obtain ⟨q, hq, he⟩ := List.mem_map.1 hL
          rw [← he]; exact hS.fresh q (inL q hq) (by rw [he]; exact hlt)
        · have := hS.size; omega
      · exact hS.fresh p (inB p hp) hlt
/-- Behind a callee that owned nothing. -/
theorem St.callNew (hS : St w0 T H w) {L' : Heap} {w' : World} (h : St w [] L' w') : St w0 T (L' ++ H) w' :=
  St.call (L := []) (F := fun L' => L' ++ H) (hc := ⟨[], H, by simp, fun _ => by simp⟩) hS h
theorem St.call0 (hS : St w0 T H w) {w' : World} (h : St w [] [] w') : St w0 T H w' := by
  have hc : Chunk H [] (fun L' => L' ++ H) := ⟨[], H, rfl, fun _ => rfl⟩
  exact @St.call w0 T H w [] [] _ hS hc w' h
theorem St.of_alike (hS : St w0 T H w) {w' : World} (h1 : w'.os = w.os) (h2 : w'.tape = w.tape) (h3 : w'.output = w.output) (h4 : w'.heap = w.heap) : St w0 T H w' :=
  ⟨h1.trans hS.os, h2.trans hS.tape, h3.trans hS.output, by rw [h4]; exact hS.size, fun b hb hT => by rw [h4]; exact hS.old b hb hT, fun p hp => by rw [h4]; exact hS.own p hp, hS.nd, hS.fresh⟩
theorem St.drew (hS : St w0 T H w) : St w0 T H w.drew := hS.of_alike rfl rfl rfl rfl
end

/-! ### A slice that is read -/
/-- At the address a the list xs of one-cell elements lies, in no block of T. -/
def Arr (w : World) (T : List Nat) (a : Option Addr) (xs : List Value) : Prop :=
  ∀ j x, xs[j]? = some x → ∃ b off, a = some ⟨b, off, none⟩ ∧ b ∉ T ∧ w.cell? ⟨b, off + j, none⟩ = some x
theorem Arr.get {w : World} {T : List Nat} {a : Option Addr} {xs : List Value} (h : Arr w T a xs) {j : Nat} (hj : j < xs.length) : ∃ b off, a = some ⟨b, off, none⟩ ∧ b ∉ T ∧ w.cell? ⟨b, off + j, none⟩ = some xs[j] :=
  h j xs[j] (List.getElem?_eq_getElem hj)
theorem Arr.nil (w : World) (T : List Nat) (a : Option Addr) : Arr w T a [] := fun j x h => by simp at h
theorem St.arrOld {w0 : World} {T : List Nat} {H : Heap} {w : World} (hS : St w0 T H w) {a : Option Addr} {xs : List Value} (h : Arr w0 T a xs) : Arr w T a xs := fun j x hx => by
  obtain ⟨b, off, h1, h2, h3⟩ := h j x hx
  exact ⟨b, off, h1, h2, hS.oldCell (a := ⟨b, off + j, none⟩) h2 h3⟩
/-- A row of the call's own. -/
theorem St.arr {w0 : World} {T : List Nat} {H : Heap} {w : World} {b : Nat} {l : List Value} {t : TypeId} {fz : Nat × Nat} {F : Obj → Heap} (hS : St w0 T H w) [Slot H b (.cells ⟨l⟩ t fz) F]
    {T' : List Nat} (hb : b ∉ T') : Arr w T' (some ⟨b, 0, none⟩) l := fun j x hx => ⟨b, 0, rfl, hb, by rw [Nat.zero_add]; exact hS.cell hx⟩
theorem Arr.sub {w : World} {T T' : List Nat} {a : Option Addr} {xs : List Value} (h : Arr w T a xs) (hT : ∀ b, b ∈ T' → b ∈ T) : Arr w T' a xs := fun j x hx => by
  obtain ⟨b, off, h1, h2, h3⟩ := h j x hx
  exact ⟨b, off, h1, fun hm => h2 (hT b hm), h3⟩
end Go.Eng
