/- Texts of this claim, one behind the other. -/
import Derived.Shelf.SlIterI.Nil
import Derived.Shelf.SortM.Plain
import Derived.Shelf.SortM.SortNone
import Derived.Ground.GgzProg
import Derived.Ground.SlgmProg
import Derived.Test.YtkgibdhpijdbfaaGreatDoorProg
import Derived.Test.YtkgibdhpijdbfaaGreatDoorZ0
import Derived.Test.YtkgibdhpijdbfaaGreatDoorZ4
import Derived.Test.YtkgibdhpijdbfaaGreatDoorZ3
import Derived.Test.YtkgibdhpijdbfaaGreatDoorZ1
import Derived.WideLaws
import Derived.Lib.ItoaLen
import Derived.Test.YtkgibdhpijdbfaaGreatDoorZ2
set_option linter.unusedVariables false
set_option linter.unusedSimpArgs false
namespace Go.Proofs
open Go.Shelf
def Tryz.keysI_ren : Go.Shelf.Ren := ⟨fun | 7 => 64 | 10 => 111 | n => n, fun | 23 => 61 | 26 => 3 | 3 => 137 | 28 => 135 | 0 => 0 | 27 => 134 | 33 => 201 | 4 => 4 | n => n, fun | n => n⟩
theorem Tryz.keysI : Go.Proofs.SlLaysZI.n7 Tryz.prog Tryz.keysI_ren := {
 mixed := by kernel_rfl
 f7 := ⟨Tryz.f64.name, by decide, Tryz.func64.trans (congrArg some (by kernel_rfl))⟩
 f10 := ⟨Tryz.f111.name, by decide, Tryz.func111.trans (congrArg some (by kernel_rfl))⟩
 t0 := Tryz.underlying0
 a0 := Tryz.isAgg0
 z0 := Tryz.sizeOf0
 v0 := Tryz.zeroValue0
 t4 := Tryz.underlying4
 a4 := Tryz.isAgg4
 z4 := Tryz.sizeOf4
 v4 := Tryz.zeroValue4
 t23 := Tryz.underlying61
 a23 := Tryz.isAgg61
 z23 := Tryz.sizeOf61
 v23 := Tryz.zeroValue61
 t26 := Tryz.underlying3
 a26 := Tryz.isAgg3
 z26 := Tryz.sizeOf3
 v26 := Tryz.zeroValue3
 t27 := Tryz.underlying134
 a27 := Tryz.isAgg134
 z27 := Tryz.sizeOf134
 v27 := Tryz.zeroValue134
 t28 := Tryz.underlying135
 a28 := Tryz.isAgg135
 z28 := Tryz.sizeOf135
 v28 := Tryz.zeroValue135
 t33 := Tryz.underlying201
 a33 := Tryz.isAgg201
 z33 := Tryz.sizeOf201
 v33 := Tryz.zeroValue201 }
def Tryz.sortedI_ren : Go.Shelf.Ren := ⟨fun | 6 => 63 | 8 => 101 | 9 => 110 | 11 => 144 | 13 => 152 | 12 => 151 | 23 => 197 | 24 => 198 | 14 => 188 | 15 => 189 | 16 => 190 | 17 => 191 | 18 => 192 | 19 => 193 | 20 => 194 | 21 => 195 | 22 => 196 | 25 => 218 | 26 => 219 | 27 => 220 | 28 => 221 | 29 => 222 | 30 => 202 | 31 => 243 | n => n, fun | 26 => 3 | 28 => 135 | 24 => 22 | 0 => 0 | 3 => 3 | 37 => 155 | 48 => 235 | 50 => 159 | 4 => 4 | 40 => 293 | 39 => 292 | 45 => 117 | 5 => 5 | 9 => 9 | 51 => 321 | 55 => 324 | 57 => 343 | 58 => 344 | 33 => 201 | n => n, fun | n => n⟩
theorem Tryz.sortedI : Go.Proofs.SlLaysZI.n6 Tryz.prog Tryz.sortedI_ren := {
 mixed := by kernel_rfl
 f6 := ⟨Tryz.f63.name, by decide, Tryz.func63.trans (congrArg some (by kernel_rfl))⟩
 f8 := ⟨Tryz.f101.name, by decide, Tryz.func101.trans (congrArg some (by kernel_rfl))⟩
 f11 := ⟨Tryz.f144.name, by decide, Tryz.func144.trans (congrArg some (by kernel_rfl))⟩
 t0 := Tryz.underlying0
 a0 := Tryz.isAgg0
 z0 := Tryz.sizeOf0
 v0 := Tryz.zeroValue0
 t24 := Tryz.underlying22
 a24 := Tryz.isAgg22
 z24 := Tryz.sizeOf22
 v24 := Tryz.zeroValue22
 t26 := Tryz.underlying3
 a26 := Tryz.isAgg3
 z26 := Tryz.sizeOf3
 v26 := Tryz.zeroValue3
 t28 := Tryz.underlying135
 a28 := Tryz.isAgg135
 z28 := Tryz.sizeOf135
 v28 := Tryz.zeroValue135
 i26 := by kernel_rfl }
def Tryz.sortI_ren : Go.Shelf.Ren := ⟨fun | 5 => 110 | 8 => 152 | 7 => 151 | 19 => 197 | 20 => 198 | 10 => 188 | 11 => 189 | 12 => 190 | 13 => 191 | 14 => 192 | 15 => 193 | 16 => 194 | 17 => 195 | 18 => 196 | 30 => 218 | 31 => 219 | 32 => 220 | 33 => 221 | 34 => 222 | 35 => 202 | 40 => 243 | n => n, fun | 23 => 22 | 25 => 3 | 3 => 3 | 32 => 155 | 22 => 22 | 0 => 0 | 44 => 235 | 46 => 159 | 4 => 4 | 36 => 293 | 35 => 292 | 41 => 117 | 5 => 5 | 9 => 9 | 53 => 321 | 57 => 324 | 63 => 343 | 64 => 344 | n => n, fun | n => n⟩
theorem Tryz.sortI : Go.Proofs.SlLaysM.n5 Tryz.prog Tryz.sortI_ren := {
 mixed := by kernel_rfl
 f5 := ⟨Tryz.f110.name, by decide, Tryz.func110.trans (congrArg some (by kernel_rfl))⟩
 f7 := ⟨Tryz.f151.name, by decide, Tryz.func151.trans (congrArg some (by kernel_rfl))⟩
 f8 := Tryz.func152.trans (congrArg some (by kernel_rfl))
 f10 := ⟨Tryz.f188.name, by decide, Tryz.func188.trans (congrArg some (by kernel_rfl))⟩
 f11 := ⟨Tryz.f189.name, by decide, Tryz.func189.trans (congrArg some (by kernel_rfl))⟩
 f12 := ⟨Tryz.f190.name, by decide, Tryz.func190.trans (congrArg some (by kernel_rfl))⟩
 f13 := ⟨Tryz.f191.name, by decide, Tryz.func191.trans (congrArg some (by kernel_rfl))⟩
 f14 := ⟨Tryz.f192.name, by decide, Tryz.func192.trans (congrArg some (by kernel_rfl))⟩
 f15 := ⟨Tryz.f193.name, by decide, Tryz.func193.trans (congrArg some (by kernel_rfl))⟩
 f16 := ⟨Tryz.f194.name, by decide, Tryz.func194.trans (congrArg some (by kernel_rfl))⟩
 f17 := ⟨Tryz.f195.name, by decide, Tryz.func195.trans (congrArg some (by kernel_rfl))⟩
 f18 := ⟨Tryz.f196.name, by decide, Tryz.func196.trans (congrArg some (by kernel_rfl))⟩
 f19 := Tryz.func197.trans (congrArg some (by kernel_rfl))
 f20 := Tryz.func198.trans (congrArg some (by kernel_rfl))
 f30 := ⟨Tryz.f218.name, by decide, Tryz.func218.trans (congrArg some (by kernel_rfl))⟩
 f31 := Tryz.func219.trans (congrArg some (by kernel_rfl))
 f32 := Tryz.func220.trans (congrArg some (by kernel_rfl))
 f33 := ⟨Tryz.f221.name, by decide, Tryz.func221.trans (congrArg some (by kernel_rfl))⟩
 f34 := ⟨Tryz.f222.name, by decide, Tryz.func222.trans (congrArg some (by kernel_rfl))⟩
 f35 := ⟨Tryz.f202.name, by decide, Tryz.func202.trans (congrArg some (by kernel_rfl))⟩
 f40 := ⟨Tryz.f243.name, by decide, Tryz.func243.trans (congrArg some (by kernel_rfl))⟩
 t0 := Tryz.underlying0
 a0 := Tryz.isAgg0
 z0 := Tryz.sizeOf0
 v0 := Tryz.zeroValue0
 t3 := Tryz.underlying3
 a3 := Tryz.isAgg3
 z3 := Tryz.sizeOf3
 v3 := Tryz.zeroValue3
 t4 := Tryz.underlying4
 a4 := Tryz.isAgg4
 z4 := Tryz.sizeOf4
 v4 := Tryz.zeroValue4
 t5 := Tryz.underlying5
 a5 := Tryz.isAgg5
 z5 := Tryz.sizeOf5
 v5 := Tryz.zeroValue5
 t9 := Tryz.underlying9
 a9 := Tryz.isAgg9
 z9 := Tryz.sizeOf9
 v9 := Tryz.zeroValue9
 t22 := Tryz.underlying22
 a22 := Tryz.isAgg22
 z22 := Tryz.sizeOf22
 v22 := Tryz.zeroValue22
 t23 := Tryz.underlying22
 a23 := Tryz.isAgg22
 z23 := Tryz.sizeOf22
 v23 := Tryz.zeroValue22
 t25 := Tryz.underlying3
 a25 := Tryz.isAgg3
 z25 := Tryz.sizeOf3
 v25 := Tryz.zeroValue3
 t32 := Tryz.underlying155
 a32 := Tryz.isAgg155
 z32 := Tryz.sizeOf155
 v32 := Tryz.zeroValue155
 t35 := Tryz.underlying292
 a35 := Tryz.isAgg292
 z35 := Tryz.sizeOf292
 v35 := Tryz.zeroValue292
 t36 := Tryz.underlying293
 a36 := Tryz.isAgg293
 z36 := Tryz.sizeOf293
 v36 := Tryz.zeroValue293
 t41 := Tryz.underlying117
 a41 := Tryz.isAgg117
 z41 := Tryz.sizeOf117
 v41 := Tryz.zeroValue117
 t44 := Tryz.underlying235
 a44 := Tryz.isAgg235
 z44 := Tryz.sizeOf235
 v44 := Tryz.zeroValue235
 t46 := Tryz.underlying159
 a46 := Tryz.isAgg159
 z46 := Tryz.sizeOf159
 v46 := Tryz.zeroValue159
 t53 := Tryz.underlying321
 a53 := Tryz.isAgg321
 z53 := Tryz.sizeOf321
 v53 := Tryz.zeroValue321
 t57 := Tryz.underlying324
 a57 := Tryz.isAgg324
 z57 := Tryz.sizeOf324
 v57 := Tryz.zeroValue324
 t63 := Tryz.underlying343
 a63 := Tryz.isAgg343
 z63 := Tryz.sizeOf343
 v63 := Tryz.zeroValue343
 t64 := Tryz.underlying344
 a64 := Tryz.isAgg344
 z64 := Tryz.sizeOf344
 v64 := Tryz.zeroValue344 }
open Go.RowKit Go.Maps Go.Sort
theorem Tryz.sortsI (m : Nat) : AnyZI.SortsIn Tryz.prog Tryz.sortedI_ren Fence.wide m :=
 ⟨fun blk off cap ss W hH hblk hsz => callsIn_wide.2 (AnyM.slices_Sort_int Tryz.sortI blk off cap ss W hH hblk hsz),
  fun p cap W => callsIn_wide.2 (AnyM.slices_Sort_int_none Tryz.sortI p cap W)⟩
theorem Tryz.mapsKeysI (mb : Option Nat) (W : World) : CallsIn Fence.wide 5 Tryz.prog 64 #[.map mb] W fun e w' => e = .returned (.func (.func 111) #[] #[.pointer (some ⟨W.heap.size, 0, none⟩)]) ∧ w' = W.alloc (.cells #[.map mb] 61) :=
 AnyZI.keys_in Tryz.keysI Fence.wide 5 trivial rfl mb W
set_option maxHeartbeats 1000000 in
theorem Tryz.sortedKeysI {H : Type} (b nn : Nat) (D0 : DataW H) (R : Value → Option (DataW H × List MemPlace)) (w : World) (hown : w.ownsMap Tryz.prog 3 R b nn D0) (hmax : Maps.size D0 ≤ maxLen) (hbytes : Maps.size D0 * 8 ≤ 140737488355328) :
  CallsIn Fence.wide 5 Tryz.prog 63 #[.func (.func 111) #[] #[.pointer (some ⟨w.heap.size, 0, none⟩)]] (w.alloc (.cells #[.map (some b)] 61)) fun e w' => ∃ (v : Value) (ss : List Int), e = .returned v ∧ ss.Perm (intKeys D0) ∧
   w'.ownsRow (w.alloc (.cells #[.map (some b)] 61)).heap.size 3 1 v ss.length ((ss.mergeSort (fun x y => decide (x ≤ y))).map encZ) ∧ (v = .slice none 0 0 ↔ ss = []) ∧ Below (w.alloc (.cells #[.map (some b)] 61)).heap.size (w.alloc (.cells #[.map (some b)] 61)) w' := by
 have hbl := hown.lt
 have hseq : SeqGives Fence.wide 2 Tryz.prog 111 #[.pointer (some ⟨w.heap.size, 0, none⟩)] encZ (fun ss => ss.Perm (intKeys D0)) (Maps.size D0) (w.alloc (.cells #[.map (some b)] 61)) :=
  AnyZI.keys_gives (ρ := Tryz.keysI_ren) { Tryz.keysI with } Fence.wide _ trivial rfl (by omega) w.heap.size b nn D0 _ (by simp) (by simp) (by
   obtain ⟨es, clock, hb, Ft, hs, hD⟩ := hown
   exact ⟨es, clock, (Below.heap_alloc _ _ b hbl).trans hb, Ft, hs, hD⟩)
 exact AnyZI.sorted_in Tryz.sortedI Fence.wide 5 trivial trivial trivial trivial rfl (by omega) (Tryz.sortsI _) (enters_of Tryz.func110 (by kernel_rfl) rfl) 111 #[.pointer (some ⟨w.heap.size, 0, none⟩)] trivial (enters_of Tryz.func111 (by kernel_rfl) rfl) _ _ hmax hbytes _ hseq
theorem Tryz.callKeysI : ∀ (args : Array Value) (w : World), (callFunc 64 args).run Tryz.prog w = .ok (.enter 64 args) w := Tryz.call64
theorem Tryz.callSortedI : ∀ (args : Array Value) (w : World), (callFunc 63 args).run Tryz.prog w = .ok (.enter 63 args) w := Tryz.call63
end Go.Proofs
namespace Go.Proofs.YtkgibdhpijdbfaaGreatDoor
open Go Go.Eng Go.Proofs Go.Sort
open Go.RowKit (Below)
theorem rd_int {P : Program} {k : TypeId} (hk : P.underlying k = some (.int .i64)) {x : MapEntry} {s : Int} (hx : x.key = intV s) (hs : -9223372036854775808 ≤ s ∧ s ≤ 9223372036854775807) : Go.WideElems.rd P k noR x = some (.int .i64 s, .nil) := by
 have hw : (Lit.int .i64 s).wf = true := by
  unfold Lit.wf
  rw [Bool.and_eq_true]
  exact ⟨decide_eq_true hs.1, decide_eq_true hs.2⟩
 have h1 := Go.Maps.keyOf_int_mk hk hw
 unfold Go.WideElems.rd
 rw [hx]
 show (keyOf P k (.int .i64 s)).bind _ = _
 rw [h1]; rfl
theorem ownsI_of {α : Type} {P : Program} {k : TypeId} (hk : P.underlying k = some (.int .i64)) {w : World} {m : Nat} {es : Array MapEntry} {c : Nat} (hm : w.heap[m]? = some (.map es c)) {val : α → Value} {kvs : List (Int × α)} (h : MapC intV val es c kvs)
  (hl : kvs.length ≤ maxLen) (hs : ∀ x ∈ kvs, -9223372036854775808 ≤ x.1 ∧ x.1 ≤ 9223372036854775807) :
  ∃ D : DataW Unit, w.ownsMap P k noR m kvs.length D ∧ (Go.intKeys D).Perm (kvs.map (·.1)) ∧ Maps.size D = kvs.length := by
 have hkeys := h.of.keys KEnc.i64
 have hlen : es.size = kvs.length := by have := congrArg List.length hkeys; simpa using this
 have hr : ∀ x ∈ es.toList, ∃ s : Int, x.key = intV s ∧ (-9223372036854775808 ≤ s ∧ s ≤ 9223372036854775807) := by
  intro x hx
  have : x.key ∈ es.toList.map (·.key) := kAw hx
  rw [hkeys] at this
  obtain ⟨y, hy, hye⟩ := kAm.1 this
  exact ⟨y.1, hye.symm, hs y hy⟩
 have hmap : (es.toList.map (Go.WideElems.rg P k noR)).map (fun p => Go.intOf p.1) = kvs.map (·.1) := by
  have e1 : (es.toList.map (Go.WideElems.rg P k noR)).map (fun p => intV (Go.intOf p.1)) = es.toList.map (·.key) := by
   rw [kBz]
   apply List.map_congr_left
   intro x hx
   obtain ⟨s, hxs, hss⟩ := hr x hx
   simp only [Function.comp_def, Go.WideElems.rg, rd_int hk hxs hss, kBu, Go.intOf, hxs]
  rw [hkeys] at e1
  have inj : ∀ l1 l2 : List Int, l1.map intV = l2.map intV → l1 = l2 := by
   intro l1
   induction l1 with
   |nil => intro l2 h; cases l2 with | nil => rfl | cons => simp at h
   |cons a l1 ih =>
    intro l2 h
    cases l2 with
    |nil => simp at h
    |cons b l2 =>
     simp only [kAh, List.cons.injEq] at h
     rw [KEnc.i64.inj h.1, ih l2 h.2]
  apply inj
  simp only [kBz, Function.comp_def] at e1 ⊢
  exact e1
 refine ⟨_, ⟨es, c, hm, ⟨by omega, h.st, fun x hx => ?_⟩, by omega, rfl⟩, ?_, ?_⟩
 ·obtain ⟨s, hxs, hss⟩ := hr x hx
  exact ⟨_, rd_int hk hxs hss⟩
 ·show ((List.foldr DataW.insert [] (es.toList.map (Go.WideElems.rg P k noR))).map fun p => Go.intOf p.1).Perm _
  rw [← hmap]
  exact (Go.WideShapes.sorted_perm _).map _
 ·show (List.foldr DataW.insert [] (es.toList.map (Go.WideElems.rg P k noR))).length = _
  rw [(Go.WideShapes.sorted_perm _).length_eq]
  simp [hlen]
abbrev keysI (b : Nat) : Value := .func (.func f_maps_Keys_map_int_table_Table_int_table_Table_1) #[] #[.pointer (some ⟨b, 0, none⟩)]
theorem keysICl (mb : Option Nat) (w : World) : Cl Tryz.prog f_maps_Keys_map_int_table_Table_int_table_Table [.map mb] w fun v w' => v = keysI w.heap.size ∧ w' = w.alloc (.cells #[.map mb] T_map_int_Ptr_table_Table) := by
 refine .inl ⟨Tryz.callKeysI _ _, Calls.mono (callsIn_wide.1 (Tryz.mapsKeysI mb w)) ?_⟩
 rintro e w' ⟨rfl, rfl⟩
 exact ⟨_, rfl, rfl, rfl⟩
theorem sortedICl {α : Type} {w : World} {m : Nat} {es : Array MapEntry} {c : Nat} (hm : w.heap[m]? = some (.map es c)) {val : α → Value} {kvs : List (Int × α)} (h : MapC intV val es c kvs) (hl : kvs.length ≤ 1099511627776) (hs : ∀ x ∈ kvs, -9223372036854775808 ≤ x.1 ∧ x.1 ≤ 9223372036854775807) :
  Cl Tryz.prog f_slices_Sorted_int [keysI w.heap.size] (w.alloc (.cells #[.map (some m)] T_map_int_Ptr_table_Table)) fun v w' => ∃ (ns : List Int) (a : Option Addr) (cap : Nat) (Lv : Heap), ns.Perm (kvs.map (·.1)) ∧ v = .slice a ns.length cap ∧ Vec T_int 1 a ns.length cap (ns.map intV) Lv ∧
   St (w.alloc (.cells #[.map (some m)] T_map_int_Ptr_table_Table)) [] Lv w' := by
 have hmx : 1099511627776 ≤ maxLen := by decide
 obtain ⟨D, ho, hp, hsz⟩ := ownsI_of (k := T_int) und_int hm h (by omega) hs
 refine .inl ⟨Tryz.callSortedI _ _, Calls.mono (callsIn_wide.1 (Tryz.sortedKeysI m kvs.length D noR w ho (by rw [hsz]; omega) (by rw [hsz]; omega))) ?_⟩
 rintro e w' ⟨v, ss, rfl, hS, hrow, -, hb⟩
 have hl2 : (ss.mergeSort (fun x y => decide (x ≤ y))).length = ss.length := (List.mergeSort_perm ss _).length_eq
 rw [← hl2] at hrow
 obtain ⟨a, cap, Lv, rfl, hv, hst⟩ := vec_of_owns hrow hb
 exact ⟨_, rfl, _, a, cap, Lv, ((List.mergeSort_perm ss _).trans hS).trans hp, rfl, hv, hst⟩
end Go.Proofs.YtkgibdhpijdbfaaGreatDoor
namespace Go.Proofs.YtkgibdhpijdbfaaGreatDoor
open Go Go.Eng Go.Proofs Go.Srt
theorem LsIn.old {w w' : World} {H : Heap} (hS : St w [] H w') {xs : List Value} {ls : List (List EntM)} (h : LsIn w xs ls) : LsIn w' xs ls := by
 induction h with
 |nil => exact .nil
 |cons ha hc _ ih => exact .cons (hS.arrOld ha) hc ih
theorem seenE_len (t : Int) (g : List EntM) : (seenE t g).length ≤ 1 := by
 unfold seenE
 split
 ·simp
 ·split <;> simp
theorem newI_seen {t : Int} {g : List EntM} : (newI t g = none → seenE t g = []) ∧ ∀ i (h : i < g.length), newI t g = some i → seenE t g = if g[i].d then [] else [g[i]] := by
 constructor
 ·intro h
  unfold newI at h
  unfold seenE newE
  rw [List.findIdx?_eq_none_iff] at h
  rw [List.find?_eq_none.2 (fun x hx => by have := h x hx; simpa using this)]
 ·intro i hi h
  unfold newI at h
  obtain ⟨_, h1, h2⟩ := kDo.1 h
  unfold seenE newE
  have h3 : g = g.take i ++ g[i] :: g.drop (i + 1) := by rw [← kBs hi, kAu]
  have : g.find? (fun x => decide (x.s ≤ t)) = some g[i] := by
   rw [List.find?_eq_some_iff_append]
   refine ⟨h1, _, _, h3, fun a ha => ?_⟩
   obtain ⟨j, hj, rfl⟩ := kCy.1 ha
   rw [kAo] at hj
   rw [List.getElem_take]
   have := h2 j (by omega)
   simpa using this
  rw [this]
theorem seen_take (t : Int) (gs : List (List EntM)) (k : Nat) : ((gs.take k).flatMap (seenE t)).length ≤ k := by
 induction k generalizing gs with
 |zero => simp
 |succ k ih =>
  cases gs with
  |nil => simp
  |cons g gs =>
   have := ih gs
   have := seenE_len t g
   simp only [List.take_succ_cons, kBo, kAa]
   omega
set_option maxHeartbeats 4000000 in
theorem View_spec {w : World} {a : Option Addr} {c : Nat} {l : List EntM} {t : Int} (ha : Arr w [] a (l.flatMap entC)) (hc : l.length ≤ c) (hn : l.length ≤ 16777216) (h1 : OneE l) :
  Cl Tryz.prog f_merge_View [.slice a l.length c, .int .i64 t] w fun v w' => ∃ r a' c' L, r.Perm l ∧ Rise r ∧ v = .slice a' (viewE t r).length c' ∧ Vec T_api_Entry 4 a' (viewE t r).length c' ((viewE t r).flatMap entC) L ∧ St w [] L w' := by
 have hS := St.start w
 refine en_merge_View rfl ?_
 refine jq ⟨?_⟩
 refine hS.al ?_
 intro b w1 _ hS
 refine jq ⟨?_⟩
 have hL : LsIn w1 [.slice a l.length c] [l] := .cons (hS.arrOld ha) hc .nil
 refine (Merge_spec (ls := [l]) (hS.arr (b := b) (T' := []) (by simp)) hL (by simp) (by simpa using hn) (by simpa using h1)).mono ?_
 rintro _ w2 ⟨r, a2, c2, L2, hp, hr, rfl, hv2, hS2⟩
 rw [List.flatten_singleton] at hp
 have hlen := hp.length_eq
 have hS := hS.callNew hS2
 have hgl := grpE_len r
 refine jq ⟨?_⟩
 refine (groups_spec (hv2.arr hS2 (T' := []) (by simp)) hv2.cap (by omega)).mono ?_
 rintro _ w3 ⟨a3, c3, xs, L3, rfl, hL3, hv3, hS3⟩
 have hL4 := hL3.old hS3
 have ha3 : Arr w3 [] a3 xs := hv3.arr hS3 (T' := []) (by simp)
 have hxl := hL4.len
 have hS0 := hS.callNew hS3
 clear hS hS2 hS3 hv3 hL3 hL hv2
 have hS := St.start w3
 refine jq ⟨?_⟩
 refine SemW.loop (fun i : Nat × Option Addr × Nat => [(1, .int .i64 t), (5, .slice i.2.1 (((grpE r).take i.1).flatMap (seenE t)).length i.2.2), (12, .slice a3 (grpE r).length c3), (13, .int .i64 (grpE r).length), (14, .int .i64 i.1)])
  (fun i w' => i.1 ≤ (grpE r).length ∧ ∃ L, Vec T_api_Entry 4 i.2.1 (((grpE r).take i.1).flatMap (seenE t)).length i.2.2 ((((grpE r).take i.1).flatMap (seenE t)).flatMap entC) L ∧ St w3 [] L w') (fun i => (grpE r).length - i.1) (0, none, 0)
  ⟨rfl, rfl, rfl, rfl, rfl, trivial⟩ ⟨kAg _, [], Vec.nil, hS⟩ ?_
 clear hS
 rintro ⟨k, a4, c4⟩ w4 ⟨hk, L, hv, hS⟩
 simp only at hk hv hS ⊢
 by_cases hkl : k < (grpE r).length
 ·obtain ⟨a5, c5, hx, ha5, hc5⟩ := hL4.get k hkl
  obtain ⟨g, off, rfl, -, -⟩ := ha3.get (j := k) (by omega)
  have hgr : ((grpE r)[k]).length ≤ r.length := by
   have := (List.sublist_flatten_of_mem (kAx hkl)).length_le
   rw [grpE_flat] at this; exact this
  have htk := seen_take t (grpE r) k
  have hsucc : ((grpE r).take (k + 1)).flatMap (seenE t) = ((grpE r).take k).flatMap (seenE t) ++ seenE t (grpE r)[k] := by
   rw [kAn hkl, kCm]; simp
  refine jq ⟨?_⟩
  refine Arr.ldc (j := k) hS ha3 hx (by omega) ?_
  refine jq ⟨?_⟩
  refine (newest_spec (hS.arrOld ha5) (by omega)).mono ?_
  rintro _ w5 ⟨rfl, hS'⟩
  have hS := hS.call0 hS'
  have hsee := newI_seen (t := t) (g := (grpE r)[k])
  generalize (grpE r)[k] = q at ha5 hc5 hgr hsucc hsee ⊢
  unfold newV
  cases hni : newI t q with
  |none =>
   have hs := hsee.1 hni
   rw [hs, kAk] at hsucc
   simp only
   refine jq ⟨?_⟩
   exact ⟨(k + 1, a4, c4), ⟨rfl, by rw [hsucc]; rfl, rfl, rfl, rfl, trivial⟩, ⟨hkl, L, by rw [hsucc]; exact hv, hS⟩, by simp; omega⟩
  |some i =>
   have hil : i < q.length := (kDo.1 hni).1
   have hs := hsee.2 i hil hni
   obtain ⟨g5, o5, rfl, hx5⟩ := ent_at ha5 hil
   generalize q[i] = u at hs hx5
   simp only
   refine jq ⟨?_⟩
   refine hS.ldOld (by simp) (by have := hx5 2 _ rfl; rw [show o5 + ((i : Int)).toNat * 4 + 2 = o5 + i * 4 + 2 by omega]; exact this) ?_
   cases hd : u.d with
   |true =>
    rw [hs, if_pos hd, kAk] at hsucc
    refine jq ⟨?_⟩
    exact ⟨(k + 1, a4, c4), ⟨rfl, by rw [hsucc]; rfl, rfl, rfl, rfl, trivial⟩, ⟨hkl, L, by rw [hsucc]; exact hv, hS⟩, by simp; omega⟩
   |false =>
    rw [hs, hd, if_neg (by simp)] at hsucc
    refine jq ⟨?_⟩
    refine ldnW (cs := [Str u.k, .int .i64 u.s, .bool u.d, Str u.v]) rfl (fun j x hj => hS.oldCell (by simp) (by have := hx5 j x hj; rw [show o5 + ((i : Int)).toNat * 4 + j = o5 + i * 4 + j by omega]; exact this)) ?_
    refine jq ⟨?_⟩
    refine hS.al ?_
    intro b6 w6 _ hS
    refine jq ⟨?_⟩
    refine St.app (sz := 4) (m := 1) tblOk rfl rfl rfl rfl hS hv (news := entC u) (by rfl) (hS.arr (b := b6) (T' := []) (by simp)) (by rfl) (by show (_ + _) * 48 ≤ _; omega) (by omega) ?_
    intro a7 c7 L7 w7 hv7 hS
    refine jq ⟨?_⟩
    exact ⟨(k + 1, a7, c7), ⟨rfl, by rw [hsucc, kAa]; rfl, rfl, rfl, rfl, trivial⟩, ⟨hkl, L7, by rw [hsucc, kAa, ents_app]; exact hv7, hS.sub (kAb _ _)⟩, by simp; omega⟩
 ·obtain rfl : k = (grpE r).length := by omega
  rw [kAr] at hv ⊢
  refine jq ⟨?_⟩
  exact ⟨r, a4, c4, L, hp, hr, rfl, hv, (hS0.callNew hS).sub (kBk _ _)⟩
theorem keepI_snoc (g : List EntM) (seen : List Int) (n : Int) (i : Nat) : keepI g (seen ++ [n]) i = (keepI g seen i || decide (newI n g = some i)) := by
 unfold keepI; rw [List.any_append, ← Bool.or_assoc]; simp
def KeepIs (g : List EntM) (seen : List Int) (kvs : List (Int × Int)) : Prop := ∀ i : Nat, (kget (i : Int) kvs).getD 0 = if keepI g seen i then 1 else 0
theorem KeepIs.start (g : List EntM) : KeepIs g [] (kput 0 1 []) := fun i => by
 rw [kget_kput]
 unfold keepI
 by_cases h : i = 0
 ·subst h; simp
 ·rw [if_neg (by omega)]; simp [h, kget]
theorem KeepIs.none {g : List EntM} {seen : List Int} {kvs : List (Int × Int)} (h : KeepIs g seen kvs) {n : Int} (hn : newI n g = none) : KeepIs g (seen ++ [n]) kvs := fun i => by
 rw [keepI_snoc, hn, h i]; simp
theorem KeepIs.some {g : List EntM} {seen : List Int} {kvs : List (Int × Int)} (h : KeepIs g seen kvs) {n : Int} {j : Nat} (hn : newI n g = .some j) : KeepIs g (seen ++ [n]) (kput (j : Int) 1 kvs) := fun i => by
 rw [keepI_snoc, hn, kget_kput]
 by_cases e : i = j
 ·subst e; simp
 ·rw [if_neg (by omega), h i]
  have : ¬ j = i := fun h => e h.symm
  simp [this]
set_option maxHeartbeats 8000000 in
theorem trim_spec {w : World} {a b : Option Addr} {c d : Nat} {g : List EntM} {seen : List Int} (ha : Arr w [] a (g.flatMap entC)) (hg : g.length ≤ 16777216) (hb : Arr w [] b (seen.map intV)) (hs : seen.length ≤ 1099511627776) :
  Cl Tryz.prog f_merge_trim [.slice a g.length c, .bool true, .slice b seen.length d] w fun v w' => ∃ a' c' L, v = .slice a' (trimG seen g).length c' ∧ Vec T_api_Entry 4 a' (trimG seen g).length c' ((trimG seen g).flatMap entC) L ∧ St w [] L w' := by
 have hS := St.start w
 refine en_merge_trim rfl ?_
 refine jq ⟨?_⟩
 refine hS.al ?_
 intro m w1 _ hS
 refine jq ⟨?_⟩
 refine St.mapSet (val := intV) (v := 1) (k := 0) (kvs := []) tblOk KEnc.i64 rfl rfl und_int hS (es := #[]) ⟨rfl, by simp [Stamp]⟩ ?_
 intro es1 cl1 w2 hm1 hS
 refine jq ⟨?_⟩
 refine SemW.loop (fun k : Nat => [(0, .slice a g.length c), (1, .bool true), (7, .map (some m)), (16, .slice b seen.length d), (17, .int .i64 seen.length), (18, .int .i64 k)])
  (fun k w' => k ≤ seen.length ∧ ∃ es cl kvs, MapC intV intV es cl kvs ∧ KeepIs g (seen.take k) kvs ∧ St w [] [(m, .map es cl)] w') (fun k => seen.length - k) 0
  ⟨rfl, rfl, rfl, rfl, rfl, rfl, trivial⟩ ⟨kAg _, es1, cl1, _, hm1, KeepIs.start g, hS⟩ ?_
 clear hS hm1
 rintro k w3 ⟨hk, es, cl, kvs, hm, hkeep, hS⟩
 by_cases hkl : k < seen.length
 ·have hx : (seen.map intV)[k]? = some (intV seen[k]) := by rw [kCo, kAp hkl]; rfl
  obtain ⟨q, off, rfl, -, -⟩ := hb.get (j := k) (by rw [kAv]; exact hkl)
  have hsucc := kAn hkl
  generalize seen[k] = n at hx hsucc
  refine jq ⟨?_⟩
  refine Arr.ldc hS hb hx (by simp) ?_
  unfold intV
  refine jq ⟨?_⟩
  refine (newest_spec (hS.arrOld ha) (by omega)).mono ?_
  rintro _ w4 ⟨rfl, hS'⟩
  have hS := hS.call0 hS'
  unfold newV
  cases hni : newI n g with
  |none =>
   simp only
   refine jq ⟨?_⟩
   exact ⟨k + 1, ⟨rfl, rfl, rfl, rfl, rfl, rfl, trivial⟩, ⟨hkl, es, cl, kvs, hm, by rw [hsucc]; exact hkeep.none hni, hS⟩, by omega⟩
  |some i =>
   have hil : i < g.length := (kDo.1 hni).1
   simp only
   refine jq ⟨?_⟩
   refine St.mapSet (val := intV) (v := 1) tblOk KEnc.i64 rfl rfl und_int hS hm ?_
   intro es2 cl2 w5 hm2 hS
   refine jq ⟨?_⟩
   exact ⟨k + 1, ⟨rfl, rfl, rfl, rfl, rfl, rfl, trivial⟩, ⟨hkl, es2, cl2, _, hm2, by rw [hsucc]; exact hkeep.some hni, hS⟩, by omega⟩
 ·obtain rfl : k = seen.length := by omega
  rw [kAr] at hkeep
  clear hk hkl
  refine jq ⟨?_⟩
  refine SemW.loop (fun i : Nat × Option Addr × Nat => [(1, .bool true), (7, .map (some m)), (11, .slice i.2.1 (keptE (keepI g seen) 0 (g.take i.1)).length i.2.2), (30, .slice a g.length c), (31, .int .i64 g.length), (32, .int .i64 i.1)])
   (fun i w' => i.1 ≤ g.length ∧ ∃ L, Vec T_api_Entry 4 i.2.1 (keptE (keepI g seen) 0 (g.take i.1)).length i.2.2 ((keptE (keepI g seen) 0 (g.take i.1)).flatMap entC) L ∧ St w [] (L ++ [(m, .map es cl)]) w') (fun i => g.length - i.1) (0, none, 0)
   ⟨rfl, rfl, rfl, rfl, rfl, rfl, trivial⟩ ⟨kAg _, [], Vec.nil, hS⟩ ?_
  clear hS
  rintro ⟨k, a2, c2⟩ w4 ⟨hk, L, hv, hS⟩
  simp only at hk hv hS ⊢
  by_cases hkl : k < g.length
  ·obtain ⟨q, off, rfl, hx⟩ := ent_at ha hkl
   have hkk := hkeep k
   have hlen : (keptE (keepI g seen) 0 (g.take k)).length ≤ k := by
    have := (keptE_sub (keepI g seen) (g.take k) 0).length_le
    rw [kAo] at this; omega
   have hsucc : keptE (keepI g seen) 0 (g.take (k + 1)) = keptE (keepI g seen) 0 (g.take k) ++ if keepI g seen k then [g[k]] else [] := by
    rw [kAn hkl, keptE_snoc, kAo, Nat.min_eq_left (by omega), kBl]
   generalize g[k] = u at hx hsucc
   refine jq ⟨?_⟩
   refine ldnW (cs := [Str u.k, .int .i64 u.s, .bool u.d, Str u.v]) rfl (fun j x hj => hS.oldCell (by simp) (by have := hx j x hj; rw [show off + ((k : Int)).toNat * 4 + j = off + k * 4 + j by omega]; exact this)) ?_
   refine jq ⟨?_⟩
   refine hS.al ?_
   intro b3 w5 _ hS
   (repeat (refine jt ⟨?_⟩; refine hS.st rfl rfl ?_; intro _ hS)); refine jt ⟨?_⟩
   refine lookI (kvs := kvs) (fun w'' hw' => ⟨es, cl, by subst hw'; exact hS.mem (b := m), hm.of⟩) ?_
   rw [hkk]
   cases hb : keepI g seen k with
   |false =>
    rw [hb] at hsucc
    simp only [Bool.false_eq_true, if_false, kAk] at hsucc ⊢
    refine jq ⟨?_⟩
    exact ⟨(k + 1, a2, c2), ⟨rfl, rfl, by rw [hsucc]; rfl, rfl, rfl, rfl, trivial⟩, ⟨hkl, L, by rw [hsucc]; exact hv, hS.sub (kAb _ _)⟩, by simp; omega⟩
   |true =>
    rw [hb] at hsucc
    simp only [if_true] at hsucc ⊢
    (repeat (refine jt ⟨?_⟩; refine hS.st rfl rfl ?_; intro _ hS)); refine jt ⟨?_⟩
    refine hS.al ?_
    intro b6 w6 _ hS
    refine jq ⟨?_⟩
    refine St.app (sz := 4) (m := 1) tblOk rfl rfl rfl rfl hS hv (news := entC u) (by rfl) (hS.arr (b := b6) (T' := []) (by simp)) (by rfl) (by show (_ + _) * 48 ≤ _; omega) (by omega) ?_
    intro a7 c7 L7 w7 hv7 hS
    refine jq ⟨?_⟩
    exact ⟨(k + 1, a7, c7), ⟨rfl, rfl, by rw [hsucc, kAa]; rfl, rfl, rfl, rfl, trivial⟩, ⟨hkl, L7, by rw [hsucc, kAa, ents_app]; exact hv7, hS.sub ((kAb _ _).trans (kAb _ _))⟩, by simp; omega⟩
  ·obtain rfl : k = g.length := by omega
   rw [kAr] at hv ⊢
   clear hk hkl
   have hlen : (keptE (keepI g seen) 0 g).length ≤ g.length := (keptE_sub (keepI g seen) g 0).length_le
   unfold trimG
   generalize keptE (keepI g seen) 0 g = K at hv hlen ⊢
   refine jq ⟨?_⟩
   refine SemW.loop (fun P : List EntM => [(1, .bool true), (11, .slice a2 P.length c2)])
    (fun P w' => dropD P = dropD K ∧ P.length ≤ g.length ∧ ∃ L, Vec T_api_Entry 4 a2 P.length c2 (P.flatMap entC) L ∧ St w [] L w') (fun P => P.length) K
    ⟨rfl, rfl, trivial⟩ ⟨rfl, hlen, L, hv, hS.sub (kBk _ _)⟩ ?_
   clear hS hv hlen
   rintro P w5 ⟨hP, hlen, L, hv, hS⟩
   rcases kDg P with rfl | ⟨Q, x, rfl⟩
   ·refine jq ⟨?_⟩
    rw [← hP]
    exact ⟨a2, c2, L, rfl, hv, hS⟩
   ·rw [List.concat_eq_append] at hP hlen hv ⊢
    rw [dropD_snoc] at hP
    have hlx : (Q ++ [x]).length = Q.length + 1 := by simp
    have hq4 := entsC_len Q
    rcases hv.inv with ⟨-, h0, -, -, -⟩ | ⟨q, tl, rfl, hx4, hx5, hx6, rfl⟩
    ·omega
    ·rw [hlx] at hlen hx6
     have hcell : ∀ j v, (entC x)[j]? = some v → ((Q ++ [x]).flatMap entC ++ tl)[Q.length * 4 + j]? = some v := fun j v hj => by
      rw [ents_app, kAc, kBh (by omega), show Q.length * 4 + j - (Q.flatMap entC).length = j by omega]
      simp only [kBo, List.flatMap_nil, kAk]
      rw [kAz (kBt.1 hj).1]; exact hj
     rw [hlx]
     (repeat (refine jt ⟨?_⟩; refine hS.st rfl rfl ?_; intro _ hS)); refine jt ⟨?_⟩
     refine hS.ld (v := .bool x.d) (by have := hcell 2 _ rfl; rw [show 0 + (((Q.length + 1 : Nat) : Int) - 1).toNat * 4 + 2 = Q.length * 4 + 2 by omega]; exact this) ?_
     cases hd : x.d with
     |true =>
      rw [if_pos hd] at hP
      (repeat (refine jt ⟨?_⟩; refine hS.st rfl rfl ?_; intro _ hS)); refine jt ⟨?_⟩
      refine ⟨Q, ⟨rfl, by rw [show (((Q.length + 1 : Nat) : Int) - 1).toNat = Q.length by omega]; rfl, trivial⟩, ⟨hP, by omega, _, Vec.row q Q.length c2 (Q.flatMap entC) (entC x ++ tl) hq4 ?_ (by omega), ?_⟩, by omega⟩
      ·rw [kAa, show (entC x).length = 4 from rfl]; rw [hx4, hlx] at hx5; omega
      ·rw [ents_app, kAc] at hS
       simpa using hS
     |false =>
      rw [if_neg (by rw [hd]; simp)] at hP
      (repeat (refine jt ⟨?_⟩; refine hS.st rfl rfl ?_; intro _ hS)); refine jt ⟨?_⟩
      rw [← hP]
      exact ⟨_, c2, _, by rw [hlx], hv, hS⟩
theorem trim_take (seen : List Int) (gs : List (List EntM)) (k : Nat) : ((gs.take k).flatMap (trimG seen)).length ≤ gs.flatten.length := by
 induction k generalizing gs with
 |zero => simp
 |succ k ih =>
  cases gs with
  |nil => simp
  |cons g gs =>
   have h1 := ih gs
   have h2 := (trimG_sub seen g).length_le
   rw [List.take_succ_cons, kBo, kBi, kAa, kAa]
   omega
set_option maxHeartbeats 4000000 in
theorem Trim_spec {w : World} {a b : Option Addr} {c d : Nat} {l : List EntM} {seen : List Int} (ha : Arr w [] a (l.flatMap entC)) (hc : l.length ≤ c) (hn : l.length ≤ 16777216) (h1 : OneE l) (hb : Arr w [] b (seen.map intV)) (hs : seen.length ≤ 1099511627776) :
  Cl Tryz.prog f_merge_Trim [.slice a l.length c, .bool true, .slice b seen.length d] w fun v w' => ∃ r a' c' L, r.Perm l ∧ Rise r ∧ v = .slice a' (trimE seen r).length c' ∧ Vec T_api_Entry 4 a' (trimE seen r).length c' ((trimE seen r).flatMap entC) L ∧ St w [] L w' := by
 have hS := St.start w
 refine en_merge_Trim rfl ?_
 refine jq ⟨?_⟩
 refine hS.al ?_
 intro b1 w1 _ hS
 refine jq ⟨?_⟩
 have hL : LsIn w1 [.slice a l.length c] [l] := .cons (hS.arrOld ha) hc .nil
 refine (Merge_spec (ls := [l]) (hS.arr (b := b1) (T' := []) (by simp)) hL (by simp) (by simpa using hn) (by simpa using h1)).mono ?_
 rintro _ w2 ⟨r, a2, c2, L2, hp, hr, rfl, hv2, hS2⟩
 rw [List.flatten_singleton] at hp
 have hlen := hp.length_eq
 have hS := hS.callNew hS2
 have hgl := grpE_len r
 refine jq ⟨?_⟩
 refine (groups_spec (hv2.arr hS2 (T' := []) (by simp)) hv2.cap (by omega)).mono ?_
 rintro _ w3 ⟨a3, c3, xs, L3, rfl, hL3, hv3, hS3⟩
 have hL4 := hL3.old hS3
 have ha3 : Arr w3 [] a3 xs := hv3.arr hS3 (T' := []) (by simp)
 have hxl := hL4.len
 have hS0 := hS.callNew hS3
 have hb3 := hS0.arrOld hb
 clear hS hS2 hS3 hv3 hL3 hL hv2
 have hS := St.start w3
 refine jq ⟨?_⟩
 refine SemW.loop (fun i : Nat × Option Addr × Nat => [(1, .bool true), (2, .slice b seen.length d), (7, .slice i.2.1 (((grpE r).take i.1).flatMap (trimG seen)).length i.2.2), (13, .slice a3 (grpE r).length c3), (14, .int .i64 (grpE r).length), (15, .int .i64 i.1)])
  (fun i w' => i.1 ≤ (grpE r).length ∧ ∃ L, Vec T_api_Entry 4 i.2.1 (((grpE r).take i.1).flatMap (trimG seen)).length i.2.2 ((((grpE r).take i.1).flatMap (trimG seen)).flatMap entC) L ∧ St w3 [] L w') (fun i => (grpE r).length - i.1) (0, none, 0)
  ⟨rfl, rfl, rfl, rfl, rfl, rfl, trivial⟩ ⟨kAg _, [], Vec.nil, hS⟩ ?_
 clear hS
 rintro ⟨k, a4, c4⟩ w4 ⟨hk, L, hv, hS⟩
 simp only at hk hv hS ⊢
 by_cases hkl : k < (grpE r).length
 ·obtain ⟨a5, c5, hx, ha5, hc5⟩ := hL4.get k hkl
  obtain ⟨g, off, rfl, -, -⟩ := ha3.get (j := k) (by omega)
  have hgr : ((grpE r)[k]).length ≤ r.length := by
   have := (List.sublist_flatten_of_mem (kAx hkl)).length_le
   rw [grpE_flat] at this; exact this
  have htk := trim_take seen (grpE r) (k + 1)
  rw [grpE_flat] at htk
  have hsucc : ((grpE r).take (k + 1)).flatMap (trimG seen) = ((grpE r).take k).flatMap (trimG seen) ++ trimG seen (grpE r)[k] := by
   rw [kAn hkl, kCm]; simp
  rw [hsucc, kAa] at htk
  generalize (grpE r)[k] = q at hx ha5 hc5 hgr hsucc htk
  refine jq ⟨?_⟩
  refine Arr.ldc (j := k) hS ha3 hx (by omega) ?_
  refine jq ⟨?_⟩
  refine (trim_spec (hS.arrOld ha5) (by omega) (hS.arrOld hb3) hs).mono ?_
  rintro _ w5 ⟨a6, c6, L6, rfl, hv6, hS6⟩
  have ha6 := hv6.arr hS6 (T' := []) (by simp)
  have hS : St w3 [] (L ++ L6) w5 := (hS.callNew hS6).perm kCi
  refine jq ⟨?_⟩
  refine St.app (sz := 4) (m := (trimG seen q).length) tblOk rfl rfl rfl rfl hS hv (news := (trimG seen q).flatMap entC) (entsC_len _) (hv6.arr hS (T' := []) (by simp)) (entsC_one _) (by show (_ + _) * 48 ≤ _; omega) (by omega) ?_
  intro a7 c7 L7 w7 hv7 hS
  refine jq ⟨?_⟩
  exact ⟨(k + 1, a7, c7), ⟨rfl, rfl, by rw [hsucc, kAa]; rfl, rfl, rfl, rfl, trivial⟩, ⟨hkl, L7, by rw [hsucc, kAa, ents_app]; exact hv7, hS.sub (kBk _ _)⟩, by simp; omega⟩
 ·obtain rfl : k = (grpE r).length := by omega
  rw [kAr] at hv ⊢
  refine jq ⟨?_⟩
  exact ⟨r, a4, c4, L, hp, hr, rfl, hv, (hS0.callNew hS).sub (kBk _ _)⟩
end Go.Proofs.YtkgibdhpijdbfaaGreatDoor
namespace Go.Proofs.YtkgibdhpijdbfaaGreatDoor
open Go Go.Eng Go.Proofs
inductive LsO : List Value → List (List EntM) → Heap → Prop where
 |nil : LsO [] [] []
 |cons {a : Option Addr} {c : Nat} {l : List EntM} {L : Heap} {xs : List Value} {ls : List (List EntM)} {M : Heap} (hv : Vec T_api_Entry 4 a l.length c (l.flatMap entC) L) (h : LsO xs ls M) : LsO (.slice a l.length c :: xs) (l :: ls) (L ++ M)
theorem LsO.at {xs : List Value} {ls : List (List EntM)} {L : Heap} (h : LsO xs ls L) {w : World} (hh : Holds L w) : LsIn w xs ls := by
 induction h with
 |nil => exact .nil
 |cons hv _ ih => exact .cons (hv.arr (St.enter hh) (by simp)) hv.cap (ih hh.right)
theorem LsO.snoc {xs : List Value} {ls : List (List EntM)} {M : Heap} (h : LsO xs ls M) {a : Option Addr} {c : Nat} {l : List EntM} {L : Heap} (hv : Vec T_api_Entry 4 a l.length c (l.flatMap entC) L) : LsO (xs ++ [.slice a l.length c]) (ls ++ [l]) (M ++ L) := by
 induction h with
 |nil => have := LsO.cons hv .nil; rwa [kAk] at this
 |cons hv' _ ih => rw [kAc]; exact .cons hv' ih
theorem LsO.len {xs : List Value} {ls : List (List EntM)} {L : Heap} (h : LsO xs ls L) : xs.length = ls.length := by
 induction h with
 |nil => rfl
 |cons _ _ ih => simp [ih]
theorem sub5 {α : Type} (x y z : α) (A B C D N M R : List α) : (x :: y :: z :: (A ++ (B ++ (C ++ (D ++ (M ++ R)))))).Sublist (x :: y :: z :: (A ++ (B ++ (C ++ (D ++ ((N ++ M) ++ R)))))) :=
 .cons_cons _ (.cons_cons _ (.cons_cons _ ((List.Sublist.refl A).append ((List.Sublist.refl B).append ((List.Sublist.refl C).append ((List.Sublist.refl D).append ((kAj N M).append (List.Sublist.refl R))))))))
theorem takeWhile_cut {α : Type} {p : α → Bool} {l : List α} {j : Nat} (hj : j ≤ l.length) (h1 : ∀ i (h : i < j), p (l[i]'(by omega)) = true) (h2 : ∀ h : j < l.length, p l[j] = false) : l.takeWhile p = l.take j := by
 induction l generalizing j with
 |nil => simp at hj; subst hj; rfl
 |cons x l ih =>
  cases j with
  |zero =>
   have := h2 (by simp)
   simp only [kDb] at this
   rw [List.takeWhile_cons_of_neg (by simp [this])]; rfl
  |succ j =>
   have h0 := h1 0 (by omega)
   simp only [kDb] at h0
   rw [List.takeWhile_cons_of_pos h0, List.take_succ_cons, ih (j := j) (by simpa using hj) (fun i h => by have := h1 (i + 1) (by omega); simpa using this) (fun h => by have := h2 (by simpa using h); simpa using this)]
theorem viewE_len (q : Int) (l : List EntM) : (viewE q l).length ≤ l.length := by
 have h : ∀ gs : List (List EntM), (gs.flatMap (seenE q)).length ≤ gs.length := by
  intro gs
  induction gs with
  |nil => simp
  |cons g gs ih =>
   rw [kBo, kAa, kAe]
   have : (seenE q g).length ≤ 1 := by
    unfold seenE
    split
    ·simp
    ·split <;> simp
   omega
 exact kBb (h _) (grpE_len l)
structure SI where
 k : Nat
 a : Option Addr
 c : Nat
structure VI where
 k : Nat
 n : Nat
 a : Option Addr
 c : Nat
set_option maxRecDepth 4000 in
set_option maxHeartbeats 8000000 in
theorem scan_spec {w : World} {sb f : Nat} {s : StM} {m : FSm} {L : Heap} (hO : StO sb f s m L) (hh : Holds L w) (k to : Bytes) (q : Int) (hr : Rise s.mem) (hq : SeqsE s.mem) (hf : ∀ x ∈ s.tabs, TabF x.2) (h1 : OneE (allE s)) (hn : (allE s).length ≤ 8388608) (htn : s.tabs.length ≤ 8388608)
  (hkr : ∀ x ∈ s.tabs, -9223372036854775808 ≤ x.1 ∧ x.1 ≤ 9223372036854775807) :
  Cl Tryz.prog f_store_Store_scan [ptr sb, Str k, Str to, .int .i64 q] w fun v w' => ∃ r, r.Perm ((allE s).filter fun x => !Op.bytesLess x.k k) ∧ Rise r ∧
   ∃ a c Lv, v = .slice a (rangeE to (viewE q r)).length c ∧ Vec T_api_Op 3 a (rangeE to (viewE q r)).length c (((rangeE to (viewE q r)).map opOf).flatMap opDC) Lv ∧ St w (keys L) (Lv ++ L) w' := by
 have hS := St.enter hh
 generalize hT : keys L = T0 at hS ⊢
 obtain ⟨L', hLL, hO⟩ : ∃ L', L' = L ∧ StO sb f s m L' := ⟨L, rfl, hO⟩
 obtain ⟨sq, es, c, hsq, ha, hc, Lh, hvh, a, ca, La, hv, lv, Ll, hl, gv, Lg, hg, mb, Lm, hm, tm, et, ct, ks, ht, Lt, hts, LF, hF⟩ := hO
 have hkk := hts.keys
 have hnd : (s.tabs.map (·.1)).Nodup := by rw [← hkk]; exact ht.nodupK KEnc.i64
 have hnk : (ks.map (·.1)).Nodup := by rw [hkk]; exact hnd
 have hkl : ks.length = s.tabs.length := by have := congrArg List.length hkk; simpa using this
 have hal : s.mem.length + (s.tabs.map (·.2)).flatten.length ≤ 8388608 := by simpa [allE] using hn
 rw [← hLL] at hS
 refine en_store_Store_scan rfl ?_
 (repeat (refine jt ⟨?_⟩; refine hS.st rfl rfl ?_; intro _ hS)); refine jt ⟨?_⟩
 refine Cl.mono (MFrom_spec hm (hS.part (L := Lm)) hr (by omega) k) ?_
 rintro _ w1 ⟨a1, c1, L1, rfl, hv1, hS'⟩
 have hS := hS.call (L := Lm) hS'
 have hSb := hS.sub (sub5 _ _ _ _ _ _ _ _ _ _)
 rw [hLL] at hSb
 have hc13 : w1.cell? ⟨sb, 13, none⟩ = some (.map (some tm)) := hS.cell (b := sb) (off := 13) rfl
 have htm := hS.mem (b := tm)
 have hrd : ∀ x ∈ ks, ∃ l, (x.1, l) ∈ s.tabs ∧ ∃ a c nb, TabR w1 x.2 l a c nb := fun x hx => hts.read (hS.part (L := Lt)) hx
 have hl0 : Arr w1 [] a1 ((fromE k 9223372036854775807 s.mem).flatMap entC) := hv1.arr hS (by simp)
 have hl0c := hv1.cap
 have hl0n : (fromE k 9223372036854775807 s.mem).length ≤ s.mem.length := by
  have := congrArg List.length (to_from k 9223372036854775807 s.mem)
  rw [kAa] at this; omega
 have hl0e := fromE_filter k hr hq
 generalize fromE k 9223372036854775807 s.mem = l0 at hl0 hl0c hl0n hl0e ⊢
 clear hS' hv1 hS
 have hS := St.start w1
 (repeat (refine jt ⟨?_⟩; refine hS.st rfl rfl ?_; intro _ hS)); refine jt ⟨?_⟩
 refine hS.al ?_
 intro b21 w2 _ hS
 (repeat (refine jt ⟨?_⟩; refine hS.st rfl rfl ?_; intro _ hS)); refine jt ⟨?_⟩
 refine hS.ldOld (by simp) hc13 ?_
 (repeat (refine jt ⟨?_⟩; refine hS.st rfl rfl ?_; intro _ hS)); refine jt ⟨?_⟩
 refine Cl.mono (keysICl _ _) ?_
 rintro _ w3 ⟨rfl, rfl⟩
 have htm2 := (hS.old tm (Array.getElem?_eq_some_iff.1 htm).1 (by simp)).trans htm
 have hS := hS.alloc (.cells #[.map (some tm)] T_map_int_Ptr_table_Table)
 (repeat (refine jt ⟨?_⟩; refine hS.st rfl rfl ?_; intro _ hS)); refine jt ⟨?_⟩
 refine Cl.mono (sortedICl htm2 ht (by omega) (fun x hx => by
  have h1 : x.1 ∈ s.tabs.map (·.1) := by rw [← hkk]; exact kAw hx
  obtain ⟨y, hy, hyx⟩ := kAm.1 h1
  rw [← hyx]; exact hkr y hy)) ?_
 rintro _ w4 ⟨ns, an, cn, Ln, hp, rfl, hvn, hS'⟩
 have hS := hS.callNew hS'
 have hnl : ns.length = s.tabs.length := by rw [← hkl]; simpa using hp.length_eq
 have hpt : ns.Perm (s.tabs.map (·.1)) := by rw [← hkk]; exact hp
 have hns : ∀ n ∈ ns, ∃ tb l, (n, tb) ∈ ks ∧ (n, l) ∈ s.tabs ∧ ∃ a c nb, TabR w1 tb l a c nb := by
  intro n hn
  obtain ⟨x, hx, rfl⟩ := kAm.1 (hp.mem_iff.1 hn)
  obtain ⟨l, h1, h2⟩ := hrd x hx
  exact ⟨x.2, l, hx, h1, h2⟩
 have hV0 : Vec T_Sl_api_Entry 1 (some ⟨b21, 0, none⟩) (0 + 1) 1 [.slice a1 l0.length c1] [(b21, .cells ⟨[.slice a1 l0.length c1]⟩ T_Sl_api_Entry (0, 0))] := Vec.made T_Sl_api_Entry b21 [.slice a1 l0.length c1]
 (repeat (refine jt ⟨?_⟩; refine hS.st rfl rfl ?_; intro _ hS)); refine jt ⟨?_⟩
 refine SemW.loop (fun z : SI => [(0, ptr sb), (1, Str k), (2, Str to), (3, .int .i64 q), (8, .slice none 0 0), (9, .slice z.a (z.k + 1) z.c), (27, .slice an ns.length cn), (28, .int .i64 ns.length), (29, .int .i64 z.k)])
  (fun z w' => z.k ≤ ns.length ∧ ∃ xs Lx Lc, Vec T_Sl_api_Entry 1 z.a (z.k + 1) z.c (.slice a1 l0.length c1 :: xs) Lx ∧ LsO xs ((ns.take z.k).map fun n => fromE k 9223372036854775807 (tabL s.tabs n)) Lc ∧ St w1 [] (Lx ++ (Lc ++ Ln)) w') (fun z => ns.length - z.k) ⟨0, some ⟨b21, 0, none⟩, 1⟩
  ⟨rfl, rfl, rfl, rfl, rfl, rfl, rfl, rfl, rfl, trivial⟩ ⟨kAg _, [], _, [], hV0, .nil, ?_⟩ ?_
 ·exact (hS.sub (List.Sublist.append (List.Sublist.refl Ln) (kAb _ _))).perm kCi
 clear hS hS' hV0
 rintro ⟨j, a9, c9⟩ w5 ⟨hj, xs, Lx, Lc, hV, hLs, hS⟩
 simp only at hj hV hLs hS ⊢
 by_cases hjl : j < ns.length
 ·have hnm : ns[j] ∈ ns := kAx hjl
  obtain ⟨tb, l, hk1, hl1, at1, ct1, nb, hTb⟩ := hns _ hnm
  have htf : TabF l := hf _ hl1
  have hsucc : (ns.take (j + 1)).map (fun n => fromE k 9223372036854775807 (tabL s.tabs n)) = (ns.take j).map (fun n => fromE k 9223372036854775807 (tabL s.tabs n)) ++ [fromE k 9223372036854775807 l] := by
   rw [kAn hjl, kAi, kAh, kC]
   unfold tabL
   rw [kget_of_mem hnd hl1]; rfl
  obtain ⟨gn, tn, rfl, -, -, -, rfl⟩ : ∃ g l', an = some ⟨g, 0, none⟩ ∧ (ns.map intV).length = ns.length * 1 ∧ (ns.map intV).length + l'.length = cn * 1 ∧ ns.length ≤ cn ∧ Ln = [(g, .cells ⟨ns.map intV ++ l'⟩ T_int (0, 0))] := by
   rcases hvn.inv with ⟨_, h, _⟩ | h
   ·omega
   ·exact h
  have hget : (ns.map intV ++ tn)[j]? = some (intV ns[j]) := by
   rw [kAz (by rw [kAv]; exact hjl)]; simp [hjl]
  have hkg := kget_of_mem hnk hk1
  generalize ns[j] = n at hget hkg hk1 hl1
  (repeat (refine jt ⟨?_⟩; refine hS.st rfl rfl ?_; intro _ hS)); refine jt ⟨?_⟩
  refine hS.ld (v := intV n) (by rw [show 0 + (j : Int).toNat * 1 = j by omega]; exact hget) ?_
  (repeat (refine jt ⟨?_⟩; refine hS.st rfl rfl ?_; intro _ hS)); refine jt ⟨?_⟩
  refine hS.ldOld (by simp) hc13 ?_
  (repeat (refine jt ⟨?_⟩; refine hS.st rfl rfl ?_; intro _ hS)); refine jt ⟨?_⟩
  refine lookupMap tblOk KEnc.i64 rfl rfl und_int rfl (kvs := ks) (fun w' hw' => ⟨et, ct, by subst hw'; exact hS.oldBlock (by simp) htm, ht.of⟩) ?_
  simp only [hkg, kD, kBu]
  (repeat (refine jt ⟨?_⟩; refine hS.st rfl rfl ?_; intro _ hS)); refine jt ⟨?_⟩
  refine Cl.mono (From_T (k := k) (hTb.old hS) htf.rise (by have := htf.len; omega)) ?_
  rintro _ w6 ⟨a2, c2, L2, rfl, hv2, hS'⟩
  have hS := hS.callNew hS'
  have hfl : (fromE k 9223372036854775807 l).length ≤ 64 := by
   have := congrArg List.length (to_from k 9223372036854775807 l)
   rw [kAa] at this; have := htf.len; omega
  generalize fromE k 9223372036854775807 l = lf at hsucc hv2 hS hfl ⊢
  have hLs2 := hLs.snoc hv2
  rw [← hsucc] at hLs2
  (repeat (refine jt ⟨?_⟩; refine hS.st rfl rfl ?_; intro _ hS)); refine jt ⟨?_⟩
  refine hS.al ?_
  intro b42 w7 _ hS
  (repeat (refine jt ⟨?_⟩; refine hS.st rfl rfl ?_; intro _ hS)); refine jt ⟨?_⟩
  refine St.app (sz := 1) (m := 1) tblOk rfl rfl rfl rfl hS hV (news := [.slice a2 lf.length c2]) rfl (by have := hS.arr (b := b42) (T' := []) (by simp); exact this) rfl (by show (_ + _) * 24 ≤ _; omega) (by omega) ?_
  intro a3 c3 L3 w8 hV3 hS
  (repeat (refine jt ⟨?_⟩; refine hS.st rfl rfl ?_; intro _ hS)); refine jt ⟨?_⟩
  have hS := hS.sub (kAb _ _)
  rw [kBe] at hV3
  refine ⟨⟨j + 1, a3, c3⟩, ⟨rfl, rfl, rfl, rfl, rfl, rfl, rfl, rfl, rfl, trivial⟩, ⟨hjl, xs ++ [.slice a2 lf.length c2], L3, _, hV3, hLs2, hS.perm ?_⟩, by simp only; omega⟩
  refine (kCq L2 L3 _).trans (List.Perm.append_left _ ?_)
  rw [kAc]
  exact kCq L2 Lc _
 ·obtain rfl : j = ns.length := by omega
  rw [kAr] at hLs
  have hmap : ns.map (fun n => fromE k 9223372036854775807 (tabL s.tabs n)) = (ns.map (tabL s.tabs)).map (fun l => l.filter fun x => !Op.bytesLess x.k k) := by
   rw [kBz]
   apply List.map_congr_left
   intro n hn
   obtain ⟨tb, l, -, hl1, -⟩ := hns n hn
   have htf : TabF l := hf _ hl1
   show fromE k _ (tabL s.tabs n) = (tabL s.tabs n).filter _
   unfold tabL
   rw [kget_of_mem hnd hl1]
   exact fromE_filter k htf.rise htf.seqs
  rw [hmap] at hLs
  have hlen : (l0 :: (ns.map (tabL s.tabs)).map (fun l => l.filter fun x => !Op.bytesLess x.k k)).length = ns.length + 1 := by simp
  have hperm : (l0 :: (ns.map (tabL s.tabs)).map (fun l => l.filter fun x => !Op.bytesLess x.k k)).flatten.Perm ((allE s).filter fun x => !Op.bytesLess x.k k) := by
   rw [kBi, flat_filter, hl0e]
   unfold allE
   rw [kDh]
   exact List.Perm.append_left _ ((tabs_flat hnd hpt).filter _)
  have hone : OneE (l0 :: (ns.map (tabL s.tabs)).map (fun l => l.filter fun x => !Op.bytesLess x.k k)).flatten := OneE.perm (List.Pairwise.sublist List.filter_sublist h1) hperm.symm
  have hfn : (l0 :: (ns.map (tabL s.tabs)).map (fun l => l.filter fun x => !Op.bytesLess x.k k)).flatten.length ≤ 8388608 := by
   rw [hperm.length_eq]
   exact kBb (List.length_filter_le _ _) hn
  have hLI : LsIn w5 (.slice a1 l0.length c1 :: xs) (l0 :: (ns.map (tabL s.tabs)).map (fun l => l.filter fun x => !Op.bytesLess x.k k)) := .cons (hS.arrOld hl0) hl0c (hLs.at (hS.part (L := Lc)))
  generalize (l0 :: (ns.map (tabL s.tabs)).map (fun l => l.filter fun x => !Op.bytesLess x.k k)) = ls at hlen hperm hone hfn hLI
  rw [← hlen] at hV
  (repeat (refine jt ⟨?_⟩; refine hS.st rfl rfl ?_; intro _ hS)); refine jt ⟨?_⟩
  rw [← hlen]
  refine Cl.mono (Merge_spec (hV.arr hS (by simp)) hLI (by omega) (by omega) hone) ?_
  rintro _ w6 ⟨r, a2, c2, L2, hrp, hrr, rfl, hv2, hS'⟩
  have hS := hS.callNew hS'
  have hrl := hrp.length_eq
  (repeat (refine jt ⟨?_⟩; refine hS.st rfl rfl ?_; intro _ hS)); refine jt ⟨?_⟩
  refine Cl.mono (View_spec (hv2.arr hS (by simp)) hv2.cap (by omega) (hone.perm hrp.symm)) ?_
  rintro _ w7 ⟨r2, a3, c3, L3, hrp2, hrr2, rfl, hv3, hS'⟩
  have hS := hS.callNew hS'
  have hS := hS.sub (kBk _ _)
  have hperm2 : r2.Perm ((allE s).filter fun x => !Op.bytesLess x.k k) := (hrp2.trans hrp).trans hperm
  have hvl : (viewE q r2).length ≤ 8388608 := by
   have h2 := hrp2.length_eq
   have h3 := viewE_len q r2
   omega
  clear hv2 hLs hLI hV
  generalize hVq : viewE q r2 = V at hv3 hvl hS ⊢
  have hVl := entsC_len V
  (repeat (refine jt ⟨?_⟩; refine hS.st rfl rfl ?_; intro _ hS)); refine jt ⟨?_⟩
  refine SemW.loop (fun z : VI => [(2, Str to), (12, .slice z.a z.k z.c), (48, .slice a3 V.length c3), (49, .int .i64 V.length), (50, .int .i64 z.k)])
   (fun z w' => z.k ≤ V.length ∧ (∀ i (h : i < z.k) (h2 : i < V.length), belowE to V[i] = true) ∧ ∃ Lo, Vec T_api_Op 3 z.a z.k z.c (((V.take z.k).map opOf).flatMap opDC) Lo ∧ St w1 [] (Lo ++ L3) w') (fun z => V.length - z.k) ⟨0, 0, none, 0⟩
   ⟨rfl, rfl, rfl, rfl, rfl, trivial⟩ ⟨kAg _, fun i h => absurd h (Nat.not_lt_zero _), [], Vec.nil, hS⟩ ?_
  have hend : ∀ (j : Nat) (a : Option Addr) (c : Nat) (Lo : Heap) (w' : World), j ≤ V.length → (∀ i (h : i < j) (h2 : i < V.length), belowE to V[i] = true) → (∀ h : j < V.length, belowE to V[j] = false) → Vec T_api_Op 3 a j c (((V.take j).map opOf).flatMap opDC) Lo → St w1 [] (Lo ++ L3) w' →
    ∃ r, r.Perm ((allE s).filter fun x => !Op.bytesLess x.k k) ∧ Rise r ∧ ∃ a2 c2 Lv, (Value.slice a j c) = .slice a2 (rangeE to (viewE q r)).length c2 ∧ Vec T_api_Op 3 a2 (rangeE to (viewE q r)).length c2 (((rangeE to (viewE q r)).map opOf).flatMap opDC) Lv ∧ St w T0 (Lv ++ L) w' := by
   intro j a c Lo w' hj hb hnb hv hS
   have hrg : rangeE to V = V.take j := takeWhile_cut hj (fun i h => hb i h (by omega)) hnb
   have hjl : (V.take j).length = j := by rw [kAo]; omega
   refine ⟨r2, hperm2, hrr2, a, c, Lo, ?_, ?_, (hSb.callNew hS).sub (List.Sublist.append (kBk Lo L3) (List.Sublist.refl _))⟩
   ·rw [hVq, hrg, hjl]
   ·rw [hVq, hrg, hjl]; exact hv
  clear hS hS'
  rintro ⟨j, n0, a4, c4⟩ w8 ⟨hj, hbel, Lo, hvo, hS⟩
  simp only at hj hbel hvo hS ⊢
  by_cases hjl : j < V.length
  ·have hVa := hv3.arr hS (T' := []) (by simp)
   obtain ⟨g3, o3, rfl, -, -⟩ := hVa.get (j := j * 4) (by omega)
   have hat : ((V.flatMap entC).drop (j * 4)).take 4 = entC V[j] := by
    have := flat_atE (cv := entC) (sz := 4) (fun _ => rfl) V [] j hjl
    rwa [kAk] at this
   have hsucc : ((V.take (j + 1)).map opOf).flatMap opDC = ((V.take j).map opOf).flatMap opDC ++ opDC (opOf V[j]) := by
    rw [kAn hjl, kAi, kCm]; simp
   have hbs : belowE to V[j] = true → ∀ i (h : i < j + 1) (h2 : i < V.length), belowE to V[i] = true := fun h0 i h h2 => by
    by_cases e : i = j
    ·subst e; exact h0
    ·exact hbel i (by omega) h2
   have hno : belowE to V[j] = false → ∀ h : j < V.length, belowE to V[j] = false := fun h _ => h
   generalize V[j] = x at hat hsucc hbs hno
   (repeat (refine jt ⟨?_⟩; refine hS.st rfl rfl ?_; intro _ hS)); refine jt ⟨?_⟩
   refine Arr.ldn (St.start w8) hVa rfl (k := j * 4) hat rfl ?_
   unfold entC
   (repeat (refine jt ⟨?_⟩; refine hS.st rfl rfl ?_; intro _ hS)); refine jt ⟨?_⟩
   refine hS.al ?_
   intro b14 w9 _ hS
   by_cases ht0 : to = []
   ·have hb1 : belowE to x = true := by unfold belowE; rw [decide_eq_true ht0]; rfl
    subst ht0
    (repeat (refine jt ⟨?_⟩; refine hS.st rfl rfl ?_; intro _ hS)); refine jt ⟨?_⟩
    refine hS.al ?_
    intro b68 w10 _ hS
    (repeat (refine jt ⟨?_⟩; refine hS.st rfl rfl ?_; intro _ hS)); refine jt ⟨?_⟩
    refine St.app (sz := 3) (m := 1) tblOk rfl rfl rfl rfl hS hvo (news := opDC (opOf x)) rfl (by have := hS.arr (b := b68) (T' := []) (by simp); exact this) rfl (by show (_ + _) * 40 ≤ _; omega) (by omega) ?_
    intro a5 c5 Lo2 w11 hvo2 hS
    have hS := hS.sub ((kAb _ _).trans (kAb _ _))
    rw [← hsucc] at hvo2
    (repeat (refine jt ⟨?_⟩; refine hS.st rfl rfl ?_; intro _ hS)); refine jt ⟨?_⟩
    exact ⟨⟨j + 1, 0, a5, c5⟩, ⟨rfl, rfl, rfl, rfl, rfl, trivial⟩, ⟨hjl, hbs hb1, Lo2, hvo2, hS⟩, by simp only; omega⟩
   ·have hbe : belowE to x = Op.bytesLess x.k to := by unfold belowE; rw [decide_eq_false ht0, Bool.false_or]
    cases hb : Op.bytesLess x.k to with
    |true =>
     have hb1 : belowE to x = true := by rw [hbe, hb]
     (repeat (refine jt ⟨?_⟩; refine hS.st rfl rfl ?_; intro _ hS)); refine jt ⟨?_⟩
     refine BrG.eqt hb ?_
     (repeat (refine jt ⟨?_⟩; refine hS.st rfl rfl ?_; intro _ hS)); refine jt ⟨?_⟩
     refine hS.al ?_
     intro b68 w10 _ hS
     (repeat (refine jt ⟨?_⟩; refine hS.st rfl rfl ?_; intro _ hS)); refine jt ⟨?_⟩
     refine St.app (sz := 3) (m := 1) tblOk rfl rfl rfl rfl hS hvo (news := opDC (opOf x)) rfl (by have := hS.arr (b := b68) (T' := []) (by simp); exact this) rfl (by show (_ + _) * 40 ≤ _; omega) (by omega) ?_
     intro a5 c5 Lo2 w11 hvo2 hS
     have hS := hS.sub ((kAb _ _).trans (kAb _ _))
     rw [← hsucc] at hvo2
     (repeat (refine jt ⟨?_⟩; refine hS.st rfl rfl ?_; intro _ hS)); refine jt ⟨?_⟩
     exact ⟨⟨j + 1, 0, a5, c5⟩, ⟨rfl, rfl, rfl, rfl, rfl, trivial⟩, ⟨hjl, hbs hb1, Lo2, hvo2, hS⟩, by simp only; omega⟩
    |false =>
     have hb1 := hno (by rw [hbe, hb])
     (repeat (refine jt ⟨?_⟩; refine hS.st rfl rfl ?_; intro _ hS)); refine jt ⟨?_⟩
     refine BrG.eqf hb ?_
     (repeat (refine jt ⟨?_⟩; refine hS.st rfl rfl ?_; intro _ hS)); refine jt ⟨?_⟩
     exact hend _ _ _ _ _ hj hbel hb1 hvo (hS.sub (kAb _ _))
  ·have hje : j = V.length := by omega
   subst hje
   (repeat (refine jt ⟨?_⟩; refine hS.st rfl rfl ?_; intro _ hS)); refine jt ⟨?_⟩
   exact hend _ _ _ _ _ (kAd _) hbel (fun h => absurd h (Nat.lt_irrefl _)) hvo hS
def snapM (s : StM) : StM := { s with given := s.given + 1, seqs := kput (s.given + 1) s.seq s.seqs }
def freeM (s : StM) (n : Int) : Int × StM := if (kget n s.seqs).isSome then (0, { s with seqs := kdel n s.seqs }) else (3, s)
set_option maxHeartbeats 2000000 in
theorem Snap_spec {w : World} {sb f : Nat} {s : StM} {m : FSm} {L : Heap} (hO : StO sb f s m L) (hh : Holds L w) (h1 : 0 ≤ s.given) (h2 : s.given ≤ 4611686018427387904) :
  Cl Tryz.prog f_store_Store_Snap [ptr sb] w fun v w' => v = .int .i64 (s.given + 1) ∧ ∃ L', StO sb f (snapM s) m L' ∧ St w (keys L) L' w' := by
 have hS := St.enter hh
 have hO0 := hO
 have hSL := hS
 obtain ⟨sq, es, c, hsq, ha, hc, Lh, hvh, a, ca, La, hv, lv, Ll, hl, gv, Lg, hg, mb, Lm, hm, tm, et, ct, ks, ht, Lt, hts, LF, hF⟩ := hO
 generalize keys _ = T0 at hS ⊢
 refine en_store_Store_Snap rfl ?_
 (repeat (refine jt ⟨?_⟩; refine hS.st rfl rfl ?_; intro _ hS)); refine jt ⟨?_⟩
 refine SemW.draw tblOk mixed (fun w' => St w T0 _ w') [14] [0, 1, 2, 3, 4, 5, 6, 7, 8, 9, 10, 11, 12, 13, 14] (by kernel_rfl) hS.drew ?_
 have hS := hS.drew
 refine jr ⟨?_⟩
 refine St.mapSet tblOk KEnc.i64 rfl rfl und_int hS (v := s.seq) hsq ?_
 intro es2 c2 w2 hsq2 hS
 (repeat (refine jt ⟨?_⟩; refine hS.st rfl rfl ?_; intro _ hS)); refine jt ⟨?_⟩
 exact ⟨rfl, _, StO.mk (s := snapM s) sq es2 c2 hsq2 ha hc Lh hvh a ca La hv lv Ll hl gv Lg hg mb Lm hm tm et ct ks ht Lt hts LF hF, hS⟩
set_option maxHeartbeats 2000000 in
theorem Free_spec {w : World} {sb f : Nat} {s : StM} {m : FSm} {L : Heap} (hO : StO sb f s m L) (hh : Holds L w) (n : Int) :
  Cl Tryz.prog f_store_looks_Free [ptr sb, .int .i64 n] w fun v w' => v = .int .i64 (freeM s n).1 ∧ ∃ L', StO sb f (freeM s n).2 m L' ∧ St w (keys L) L' w' := by
 have hS := St.enter hh
 have hO0 := hO
 have hSL := hS
 obtain ⟨sq, es, c, hsq, ha, hc, Lh, hvh, a, ca, La, hv, lv, Ll, hl, gv, Lg, hg, mb, Lm, hm, tm, et, ct, ks, ht, Lt, hts, LF, hF⟩ := hO
 generalize keys _ = T0 at hS ⊢
 refine en_store_looks_Free rfl ?_
 unfold freeM
 (repeat (refine jt ⟨?_⟩; refine hS.st rfl rfl ?_; intro _ hS)); refine jt ⟨?_⟩
 have hlk : ((kget n s.seqs).map intV).getD (.int .i64 0) = .int .i64 ((kget n s.seqs).getD 0) := by cases kget n s.seqs <;> rfl
 refine lookupMap tblOk KEnc.i64 rfl rfl und_int rfl (kvs := s.seqs) (fun w' hw' => ⟨es, c, by subst hw'; exact hS.mem (b := sq), hsq.of⟩) ?_
 simp only [hlk]
 cases hk : (kget n s.seqs).isSome with
 |true =>
  rw [if_pos rfl]
  (repeat (refine jt ⟨?_⟩; refine hS.st rfl rfl ?_; intro _ hS)); refine jt ⟨?_⟩
  refine St.mapDel tblOk KEnc.i64 rfl rfl und_int hS hsq ?_
  intro es2 c2 w5 hsq2 hS
  (repeat (refine jt ⟨?_⟩; refine hS.st rfl rfl ?_; intro _ hS)); refine jt ⟨?_⟩
  exact ⟨rfl, _, StO.mk (s := { s with seqs := kdel n s.seqs }) sq es2 c2 hsq2 ha hc Lh hvh a ca La hv lv Ll hl gv Lg hg mb Lm hm tm et ct ks ht Lt hts LF hF, hS⟩
 |false =>
  rw [if_neg (by simp)]
  (repeat (refine jt ⟨?_⟩; refine hS.st rfl rfl ?_; intro _ hS)); refine jt ⟨?_⟩
  exact ⟨rfl, _, hO0, hS⟩
def atM (s : StM) (m : FSm) (n : Int) : Int × Int := if (s.dead || m.off) = true then (0, 7) else match kget n s.seqs with | none => (0, 3) | some q => (q, 0)
def atS (s : StM) (m : FSm) : StM := if (s.dead || m.off) = true then { s with dead := true } else s
theorem done_down {s : StM} {m : FSm} (_h : (s.dead || m.off) = true) : doneM s m 7 = (7, { s with dead := true }) := by
 unfold doneM; rw [if_pos (by simp)]
set_option maxHeartbeats 2000000 in
theorem at_spec {w : World} {sb f : Nat} {s : StM} {m : FSm} {L : Heap} (hO : StO sb f s m L) (hh : Holds L w) (n : Int) :
  Cl Tryz.prog f_store_Store_at [ptr sb, .int .i64 n] w fun v w' => v = .tuple ⟨[.int .i64 (atM s m n).1, .int .i64 (atM s m n).2]⟩ ∧ ∃ L', StO sb f (atS s m) m L' ∧ St w (keys L) L' w' := by
 have hS := St.enter hh
 refine en_store_Store_at rfl ?_
 unfold atM atS
 refine jq ⟨?_⟩
 refine (SDown_spec hO hS.holds).mono ?_
 rintro _ w1 ⟨rfl, hS'⟩
 have hS := hS.call hS'
 cases hd : (s.dead || m.off) with
 |true =>
  rw [if_pos rfl, if_pos rfl]
  refine jq ⟨?_⟩
  refine (Sdone_spec hO hS.holds 7).mono ?_
  rw [done_down hd]
  rintro _ w2 ⟨rfl, L2, hO2, hS'⟩
  have hS := hS.call hS'
  refine jq ⟨?_⟩
  exact ⟨rfl, L2, hO2, hS⟩
 |false =>
  rw [if_neg (by simp), if_neg (by simp)]
  have hS0 := hS
  have hO0 := hO
  obtain ⟨sq, es, c, hsq, ha, hc, Lh, hvh, a, ca, La, hv, lv, Ll, hl, gv, Lg, hg, mb, Lm, hm, tm, et, ct, ks, ht, Lt, hts, LF, hF⟩ := hO
  generalize keys _ = T0 at hS ⊢
  (repeat (refine jt ⟨?_⟩; refine hS.st rfl rfl ?_; intro _ hS)); refine jt ⟨?_⟩
  have hlk : ((kget n s.seqs).map intV).getD (.int .i64 0) = .int .i64 ((kget n s.seqs).getD 0) := by cases kget n s.seqs <;> rfl
  refine lookupMap tblOk KEnc.i64 rfl rfl und_int rfl (kvs := s.seqs) (fun w' hw' => ⟨es, c, by subst hw'; exact hS.mem (b := sq), hsq.of⟩) ?_
  simp only [hlk]
  cases hk : kget n s.seqs with
  |some q =>
   simp only [Option.isSome_some]
   (repeat (refine jt ⟨?_⟩; refine hS.st rfl rfl ?_; intro _ hS)); refine jt ⟨?_⟩
   exact ⟨rfl, _, hO0, hS⟩
  |none =>
   simp only [kDj]
   (repeat (refine jt ⟨?_⟩; refine hS.st rfl rfl ?_; intro _ hS)); refine jt ⟨?_⟩
   exact ⟨rfl, _, hO0, hS⟩
structure SRd (s : StM) : Prop where
 rise : Rise s.mem
 seqs : SeqsE s.mem
 tab : ∀ x ∈ s.tabs, TabF x.2
 one : OneE (allE s)
 num : (allE s).length ≤ 8388608
 tnum : s.tabs.length ≤ 8388608
 keys : ∀ x ∈ s.tabs, -9223372036854775808 ≤ x.1 ∧ x.1 ≤ 9223372036854775807
theorem ldAt {w : World} {a : Addr} {v : Value} (h : w.cell? a = some v) {K : Value → Prop} (hk : K v) : LdC (fun w' => w = w') a K := ⟨⟨v, fun _ e => by subst e; exact h, hk⟩⟩
theorem StO.cell {sb f : Nat} {s : StM} {m : FSm} {L : Heap} (hO : StO sb f s m L) {w : World} (hh : Holds L w) : ∃ sq tm mb ha hc a ca lv gv, ∀ (i : Nat) (v : Value), ([.int .i64 s.given, .map (some sq), ptr f, .int .i64 s.memMax, .int .i64 s.fan, .slice ha s.hts.length hc, .slice a s.v.files.length ca, .int .i64 s.v.wal, .int .i64 s.v.next, .int .i64 s.v.seq, lv, gv, ptr mb, .map (some tm), .int .i64 s.seq, .bool s.dead] : List Value)[i]? = some v → w.cell? ⟨sb, i, none⟩ = some v := by
 obtain ⟨sq, es, c, hsq, ha, hc, Lh, hvh, a, ca, La, hv, lv, Ll, hl, gv, Lg, hg, mb, Lm, hm, tm, et, ct, ks, ht, Lt, hts, LF, hF⟩ := hO
 exact ⟨sq, tm, mb, ha, hc, a, ca, lv, gv, fun i v hi => (St.enter hh).cell (b := sb) (off := i) hi⟩
theorem StO.seqC {sb f : Nat} {s : StM} {m : FSm} {L : Heap} (hO : StO sb f s m L) {w : World} (hh : Holds L w) : w.cell? ⟨sb, 14, none⟩ = some (.int .i64 s.seq) := by
 obtain ⟨_, _, _, _, _, _, _, _, _, h⟩ := hO.cell hh; exact h 14 _ rfl
theorem StO.fC {sb f : Nat} {s : StM} {m : FSm} {L : Heap} (hO : StO sb f s m L) {w : World} (hh : Holds L w) : w.cell? ⟨sb, 2, none⟩ = some (ptr f) := by
 obtain ⟨_, _, _, _, _, _, _, _, _, h⟩ := hO.cell hh; exact h 2 _ rfl
theorem StO.memC {sb f : Nat} {s : StM} {m : FSm} {L : Heap} (hO : StO sb f s m L) {w : World} (hh : Holds L w) : w.cell? ⟨sb, 3, none⟩ = some (.int .i64 s.memMax) := by
 obtain ⟨_, _, _, _, _, _, _, _, _, h⟩ := hO.cell hh; exact h 3 _ rfl
theorem StO.fanC {sb f : Nat} {s : StM} {m : FSm} {L : Heap} (hO : StO sb f s m L) {w : World} (hh : Holds L w) : w.cell? ⟨sb, 4, none⟩ = some (.int .i64 s.fan) := by
 obtain ⟨_, _, _, _, _, _, _, _, _, h⟩ := hO.cell hh; exact h 4 _ rfl
theorem StO.walC {sb f : Nat} {s : StM} {m : FSm} {L : Heap} (hO : StO sb f s m L) {w : World} (hh : Holds L w) : w.cell? ⟨sb, 7, none⟩ = some (.int .i64 s.v.wal) := by
 obtain ⟨_, _, _, _, _, _, _, _, _, h⟩ := hO.cell hh; exact h 7 _ rfl
theorem StO.nextC {sb f : Nat} {s : StM} {m : FSm} {L : Heap} (hO : StO sb f s m L) {w : World} (hh : Holds L w) : w.cell? ⟨sb, 8, none⟩ = some (.int .i64 s.v.next) := by
 obtain ⟨_, _, _, _, _, _, _, _, _, h⟩ := hO.cell hh; exact h 8 _ rfl
theorem StO.vseqC {sb f : Nat} {s : StM} {m : FSm} {L : Heap} (hO : StO sb f s m L) {w : World} (hh : Holds L w) : w.cell? ⟨sb, 9, none⟩ = some (.int .i64 s.v.seq) := by
 obtain ⟨_, _, _, _, _, _, _, _, _, h⟩ := hO.cell hh; exact h 9 _ rfl
def GetR (s : StM) (k : Bytes) (q : Int) (b : Option EntM) : Prop := Best (getE s.mem k q :: s.tabs.map fun x => getE x.2 k q) b
def ScanR (s : StM) (k to : Bytes) (q : Int) (ops : List OpM) : Prop := ∃ r, r.Perm ((allE s).filter fun x => !Op.bytesLess x.k k) ∧ Rise r ∧ ops = (rangeE to (viewE q r)).map opOf
def valV (b : Option EntM) : Bytes := (b.getD zeroN).v
def okV (b : Option EntM) : Bool := b.isSome && !(b.getD zeroN).d
theorem get_S {w : World} {sb f : Nat} {s : StM} {m : FSm} {L : Heap} (hO : StO sb f s m L) (hh : Holds L w) (k : Bytes) (q : Int) (hk : k.length ≤ 1099511627776) (hR : SRd s) :
  Cl Tryz.prog f_store_Store_get [ptr sb, Str k, .int .i64 q] w fun v w' => ∃ b, GetR s k q b ∧ v = .tuple ⟨[Str (valV b), .bool (okV b)]⟩ ∧ St w (keys L) L w' := get_spec hO hh k q hk hR.rise hR.tab
theorem scan_S {w : World} {sb f : Nat} {s : StM} {m : FSm} {L : Heap} (hO : StO sb f s m L) (hh : Holds L w) (k to : Bytes) (q : Int) (hR : SRd s) :
  Cl Tryz.prog f_store_Store_scan [ptr sb, Str k, Str to, .int .i64 q] w fun v w' => ∃ ops, ScanR s k to q ops ∧ ∃ a c Lv, v = .slice a ops.length c ∧ Vec T_api_Op 3 a ops.length c (ops.flatMap opDC) Lv ∧ St w (keys L) (Lv ++ L) w' := by
 refine (scan_spec hO hh k to q hR.rise hR.seqs hR.tab hR.one hR.num hR.tnum hR.keys).mono ?_
 rintro v w' ⟨r, h1, h2, a, c, Lv, h3, h4, h5⟩
 have e : ((rangeE to (viewE q r)).map opOf).length = (rangeE to (viewE q r)).length := by simp
 exact ⟨_, ⟨r, h1, h2, rfl⟩, a, c, Lv, by rw [e]; exact h3, by rw [e]; exact h4, h5⟩
def downS (s : StM) (m : FSm) : Bool := s.dead || m.off
def deadS (s : StM) : StM := { s with dead := true }
set_option maxHeartbeats 2000000 in
theorem Get_spec {w : World} {sb f : Nat} {s : StM} {m : FSm} {L : Heap} (hO : StO sb f s m L) (hh : Holds L w) (k : Bytes) (hk : k.length ≤ 1099511627776) (hR : SRd s) :
  Cl Tryz.prog f_store_Store_Get [ptr sb, Str k] w fun v w' => (downS s m = true ∧ v = .tuple ⟨[Str [], .bool false, .int .i64 7]⟩ ∧ ∃ L', StO sb f (deadS s) m L' ∧ St w (keys L) L' w') ∨
   (downS s m = false ∧ ∃ b, GetR s k s.seq b ∧ v = .tuple ⟨[Str (valV b), .bool (okV b), .int .i64 0]⟩ ∧ St w (keys L) L w') := by
 have hS := St.enter hh
 refine en_store_Store_Get rfl ?_
 unfold downS
 refine jq ⟨?_⟩
 refine (SDown_spec hO hS.holds).mono ?_
 rintro _ w1 ⟨rfl, hS'⟩
 have hS := hS.call hS'
 cases hd : (s.dead || m.off) with
 |true =>
  refine jq ⟨?_⟩
  refine (Sdone_spec hO hS.holds 7).mono ?_
  rw [done_down hd]
  rintro _ w2 ⟨rfl, L2, hO2, hS'⟩
  have hS := hS.call hS'
  refine jq ⟨?_⟩
  exact .inl ⟨rfl, rfl, L2, hO2, hS⟩
 |false =>
  refine jq ⟨?_⟩
  refine ldAt (hO.seqC hS.holds) ?_
  refine jq ⟨?_⟩
  refine (get_S hO hS.holds k s.seq hk hR).mono ?_
  rintro _ w2 ⟨b, hb, rfl, hS'⟩
  have hS := hS.call hS'
  refine jq ⟨?_⟩
  exact .inr ⟨rfl, b, hb, rfl, hS⟩
set_option maxHeartbeats 2000000 in
theorem Scan_S {w : World} {sb f : Nat} {s : StM} {m : FSm} {L : Heap} (hO : StO sb f s m L) (hh : Holds L w) (k to : Bytes) (hR : SRd s) :
  Cl Tryz.prog f_store_Store_Scan [ptr sb, Str k, Str to] w fun v w' => (downS s m = true ∧ v = .tuple ⟨[.slice none 0 0, .int .i64 7]⟩ ∧ ∃ L', StO sb f (deadS s) m L' ∧ St w (keys L) L' w') ∨
   (downS s m = false ∧ ∃ ops, ScanR s k to s.seq ops ∧ ∃ a c Lv, v = .tuple ⟨[.slice a ops.length c, .int .i64 0]⟩ ∧ Vec T_api_Op 3 a ops.length c (ops.flatMap opDC) Lv ∧ St w (keys L) (Lv ++ L) w') := by
 have hS := St.enter hh
 refine en_store_Store_Scan rfl ?_
 unfold downS
 refine jq ⟨?_⟩
 refine (SDown_spec hO hS.holds).mono ?_
 rintro _ w1 ⟨rfl, hS'⟩
 have hS := hS.call hS'
 cases hd : (s.dead || m.off) with
 |true =>
  refine jq ⟨?_⟩
  refine (Sdone_spec hO hS.holds 7).mono ?_
  rw [done_down hd]
  rintro _ w2 ⟨rfl, L2, hO2, hS'⟩
  have hS := hS.call hS'
  refine jq ⟨?_⟩
  exact .inl ⟨rfl, rfl, L2, hO2, hS⟩
 |false =>
  refine jq ⟨?_⟩
  refine ldAt (hO.seqC hS.holds) ?_
  refine jq ⟨?_⟩
  refine (scan_S hO hS.holds k to s.seq hR).mono ?_
  rintro _ w2 ⟨ops, hb, a, c, Lv, rfl, hv, hS'⟩
  have hS := hS.call hS'
  refine jq ⟨?_⟩
  exact .inr ⟨rfl, ops, hb, a, c, Lv, rfl, hv, hS⟩
theorem atM_down {s : StM} {m : FSm} {n : Int} : (atM s m n).2 = 0 → downS s m = false ∧ kget n s.seqs = some (atM s m n).1 := by
 unfold atM downS
 intro h
 split at h
 ·simp at h
 ·rename_i hd
  rw [if_neg hd]
  cases e : kget n s.seqs with
  |none => rw [e] at h; simp at h
  |some q => exact ⟨by simpa using hd, rfl⟩
theorem atS_up {s : StM} {m : FSm} (h : downS s m = false) : atS s m = s := by
 unfold atS; unfold downS at h; rw [h]; rfl
set_option maxHeartbeats 2000000 in
theorem GetAt_spec {w : World} {sb f : Nat} {s : StM} {m : FSm} {L : Heap} (hO : StO sb f s m L) (hh : Holds L w) (n : Int) (k : Bytes) (hk : k.length ≤ 1099511627776) (hR : SRd s) :
  Cl Tryz.prog f_store_Store_GetAt [ptr sb, .int .i64 n, Str k] w fun v w' => ((atM s m n).2 ≠ 0 ∧ v = .tuple ⟨[Str [], .bool false, .int .i64 (atM s m n).2]⟩ ∧ ∃ L', StO sb f (atS s m) m L' ∧ St w (keys L) L' w') ∨
   ((atM s m n).2 = 0 ∧ ∃ b, GetR s k (atM s m n).1 b ∧ v = .tuple ⟨[Str (valV b), .bool (okV b), .int .i64 0]⟩ ∧ ∃ L', StO sb f s m L' ∧ St w (keys L) L' w') := by
 have hS := St.enter hh
 refine en_store_Store_GetAt rfl ?_
 refine jq ⟨?_⟩
 refine (at_spec hO hS.holds n).mono ?_
 have hup : (atM s m n).2 = 0 → atS s m = s := fun h => atS_up (atM_down h).1
 rintro _ w1 ⟨rfl, L1, hO1, hS'⟩
 have hS := hS.call hS'
 generalize atM s m n = y at hup ⊢
 obtain ⟨q, e⟩ := y
 simp only at hup ⊢
 by_cases he : e = 0
 ·subst he
  rw [hup rfl] at hO1
  refine jq ⟨?_⟩
  refine (get_S hO1 hS.holds k q hk hR).mono ?_
  rintro _ w2 ⟨b, hb, rfl, hS'⟩
  have hS := hS.call hS'
  refine jq ⟨?_⟩
  exact .inr ⟨rfl, b, hb, rfl, L1, hO1, hS⟩
 ·refine jq ⟨?_⟩
  exact .inl ⟨he, rfl, L1, hO1, hS⟩
set_option maxHeartbeats 2000000 in
theorem ScanAt_spec {w : World} {sb f : Nat} {s : StM} {m : FSm} {L : Heap} (hO : StO sb f s m L) (hh : Holds L w) (n : Int) (k to : Bytes) (hR : SRd s) :
  Cl Tryz.prog f_store_Store_ScanAt [ptr sb, .int .i64 n, Str k, Str to] w fun v w' => ((atM s m n).2 ≠ 0 ∧ v = .tuple ⟨[.slice none 0 0, .int .i64 (atM s m n).2]⟩ ∧ ∃ L', StO sb f (atS s m) m L' ∧ St w (keys L) L' w') ∨
   ((atM s m n).2 = 0 ∧ ∃ ops, ScanR s k to (atM s m n).1 ops ∧ ∃ a c Lv, v = .tuple ⟨[.slice a ops.length c, .int .i64 0]⟩ ∧ Vec T_api_Op 3 a ops.length c (ops.flatMap opDC) Lv ∧ ∃ L', StO sb f s m L' ∧ St w (keys L) (Lv ++ L') w') := by
 have hS := St.enter hh
 refine en_store_Store_ScanAt rfl ?_
 refine jq ⟨?_⟩
 refine (at_spec hO hS.holds n).mono ?_
 have hup : (atM s m n).2 = 0 → atS s m = s := fun h => atS_up (atM_down h).1
 rintro _ w1 ⟨rfl, L1, hO1, hS'⟩
 have hS := hS.call hS'
 generalize atM s m n = y at hup ⊢
 obtain ⟨q, e⟩ := y
 simp only at hup ⊢
 by_cases he : e = 0
 ·subst he
  rw [hup rfl] at hO1
  refine jq ⟨?_⟩
  refine (scan_S hO1 hS.holds k to q hR).mono ?_
  rintro _ w2 ⟨ops, hb, a, c, Lv, rfl, hv, hS'⟩
  have hS := hS.call hS'
  refine jq ⟨?_⟩
  exact .inr ⟨rfl, ops, hb, a, c, Lv, rfl, hv, L1, hO1, hS⟩
 ·refine jq ⟨?_⟩
  exact .inl ⟨he, rfl, L1, hO1, hS⟩
end Go.Proofs.YtkgibdhpijdbfaaGreatDoor
namespace Go.Eng
open Go
theorem neqHeld {P : Program} {T0 : Tbl} (hT : TOk P T0) {t : TypeId} {i : TI} (hi : tf T0 t = some i) (hk : i.k = .iface) {x y : Operand} {u : TypeId} {v : Value} {K : Value → Prop} (hK : K (.bool true)) :
  PureRun P (do eqGuard .neq t x y (.iface u v) .nilIface; binOp .neq t (.iface u v) .nilIface) K := by
 have h := und_of hT hi; rw [hk] at h
 obtain ⟨ms, h⟩ := h
 have h2 : P.underlying t = some (.interface (P.methodsAt t)) := by simp [Program.methodsAt, h]
 refine ⟨_, fun w => ?_, hK⟩
 rw [Sem.run_bind, run_eqGuard_of P .neq t x y _ _ w (by intro c h; cases h) (by intro h; cases h)]
 exact run_neq_held_nil w t u v h2
theorem neqNilNil {P : Program} {T0 : Tbl} (hT : TOk P T0) {t : TypeId} {i : TI} (hi : tf T0 t = some i) (hk : i.k = .iface) {x : Operand} {c : Value} {K : Value → Prop} (hK : K (.bool false)) :
  PureRun P (do eqGuard .neq t x (.const c) .nilIface .nilIface; binOp .neq t .nilIface .nilIface) K := by
 have h := und_of hT hi; rw [hk] at h
 obtain ⟨ms, h⟩ := h
 have h2 : P.underlying t = some (.interface (P.methodsAt t)) := by simp [Program.methodsAt, h]
 refine ⟨_, fun w => ?_, hK⟩
 have h3 : (eqGuard .neq t x (.const c) .nilIface .nilIface).run P w = .ok () w := by simp [eqGuard]
 rw [Sem.run_bind, h3]
 exact run_neq_nil_nil w t h2
end Go.Eng
namespace Go.Proofs.YtkgibdhpijdbfaaGreatDoor
open Go Go.Eng Go.Proofs Go.Srt
def i64r (n : Int) : Prop := -9223372036854775808 ≤ n ∧ n ≤ 9223372036854775807
theorem itoa_short {n : Int} (h : i64r n) : (Lib.itoa n).length ≤ 21 := Lib.itoa_length_le n h.1 h.2
theorem Table_spec {w : World} {n : Int} (hn : i64r n) (hT : TabW w) : Cl Tryz.prog f_manifest_Table [.int .i64 n] w fun v w' => v = Str (116 :: Lib.itoa n) ∧ St w [] [] w' := by
 have hS := St.start w
 refine en_manifest_Table rfl ?_
 refine jq ⟨?_⟩
 refine Cl.mono (Itoa_specZ hn.1 hn.2 hT) ?_
 rintro _ w1 ⟨rfl, hS'⟩
 have hS := hS.call0 hS'
 have hil := itoa_short hn
 refine jq ⟨?_⟩
 refine Chk.mk (by simp; omega) ?_
 refine jq ⟨?_⟩
 exact ⟨rfl, hS⟩
theorem Log_spec {w : World} {n : Int} (hn : i64r n) (hT : TabW w) : Cl Tryz.prog f_manifest_Log [.int .i64 n] w fun v w' => v = Str (119 :: Lib.itoa n) ∧ St w [] [] w' := by
 have hS := St.start w
 refine en_manifest_Log rfl ?_
 refine jq ⟨?_⟩
 refine Cl.mono (Itoa_specZ hn.1 hn.2 hT) ?_
 rintro _ w1 ⟨rfl, hS'⟩
 have hS := hS.call0 hS'
 have hil := itoa_short hn
 refine jq ⟨?_⟩
 refine Chk.mk (by simp; omega) ?_
 refine jq ⟨?_⟩
 exact ⟨rfl, hS⟩
theorem List_spec {w : World} {n : Int} (hn : i64r n) (hT : TabW w) : Cl Tryz.prog f_manifest_List [.int .i64 n] w fun v w' => v = Str (109 :: Lib.itoa n) ∧ St w [] [] w' := by
 have hS := St.start w
 refine en_manifest_List rfl ?_
 refine jq ⟨?_⟩
 refine Cl.mono (Itoa_specZ hn.1 hn.2 hT) ?_
 rintro _ w1 ⟨rfl, hS'⟩
 have hS := hS.call0 hS'
 have hil := itoa_short hn
 refine jq ⟨?_⟩
 refine Chk.mk (by simp; omega) ?_
 refine jq ⟨?_⟩
 exact ⟨rfl, hS⟩
theorem not_isL {c : UInt8} (h1 : c.toNat ≠ 116) (h2 : c.toNat ≠ 119) (h3 : c.toNat ≠ 109) : isL c = false := by
 unfold isL
 have e1 : (c == 116) = false := beq_eq_false_iff_ne.2 fun e => h1 (by rw [e]; rfl)
 have e2 : (c == 119) = false := beq_eq_false_iff_ne.2 fun e => h2 (by rw [e]; rfl)
 have e3 : (c == 109) = false := beq_eq_false_iff_ne.2 fun e => h3 (by rw [e]; rfl)
 rw [e1, e2, e3]; rfl
set_option maxHeartbeats 1000000 in
theorem Parse_spec {w : World} {t : Bytes} (ht : t.length ≤ 281474976710656) (hE : ErrVars w) (hT : TabW w) : Cl Tryz.prog f_manifest_Parse [Str t] w fun v w' => v = parseV t ∧ St w [] [] w' := by
 have hS := St.start w
 refine en_manifest_Parse rfl ?_
 cases t with
 |nil =>
  refine jq ⟨?_⟩
  exact ⟨rfl, hS⟩
 |cons c r =>
  have hlen : (c :: r).length = r.length + 1 := rfl
  refine jq ⟨?_⟩
  rw [decide_eq_false (List.cons_ne_nil c r)]
  refine jq ⟨?_⟩
  refine Cl.mono (Atoi_specZ (s := r) (by omega) hE) ?_
  rintro _ w2 ⟨hS', n, ev, rfl, hrng, hev⟩
  have hS := hS.call0 hS'
  have hp := parseN_of (c := c) (r := r) (n := n) hrng (hev.imp (fun h => h.1) (fun h => h.1))
  have hfalse : nameN c r n = false → Value.tuple ⟨[.int .u8 0, .int .i64 0, .bool false]⟩ = parseV (c :: r) := fun h => by
   unfold parseV; rw [hp, h]; rfl
  have htrue : nameN c r n = true → Value.tuple ⟨[.int .u8 (c.toNat : Nat), .int .i64 n, .bool true]⟩ = parseV (c :: r) := fun h => by
   unfold parseV; rw [hp, h]; rfl
  have hil := itoa_short hrng
  rcases hev with ⟨ha, rfl⟩ | ⟨ha, -, t, p, rfl⟩
  ·refine jq ⟨?_⟩
   refine SemW.draw tblOk mixed (fun w' => St w [] [] w') [] [0, 1, 2, 3, 4, 5, 6, 7, 9, 10, 8, 11, 12] (by kernel_rfl) hS.drew ?_
   have hS := hS.drew
   generalize w2.drew = w2 at hS
   refine jr ⟨?_⟩
   refine neqNilNil tblOk rfl rfl ?_
   by_cases hn1 : n < 1
   ·have hf : nameN c r n = false := by unfold nameN; rw [decide_eq_false (by omega)]; rfl
    refine jr ⟨?_⟩
    refine jq ⟨?_⟩
    exact ⟨hfalse hf, hS⟩
   ·refine jr ⟨?_⟩
    refine Cl.mono (Itoa_specZ hrng.1 hrng.2 (hT.keep hS)) ?_
    rintro _ w3 ⟨rfl, hS'⟩
    have hS := hS.call0 hS'
    refine jr ⟨?_⟩
    rw [show List.drop (Int.toNat 1) (c :: r) = r from rfl]
    by_cases hr : Lib.itoa n = r
    ·rw [decide_eq_true hr]
     refine jq ⟨?_⟩
     rw [show (c :: r).getD (Int.toNat 0) 0 = c from rfl]
     by_cases h1 : c.toNat = 116
     ·have hc : isL c = true := by
       have : c = 116 := UInt8.toNat_inj.1 h1
       subst this; rfl
      have ht : nameN c r n = true := by unfold nameN; rw [decide_eq_true hr, hc, decide_eq_true (by omega)]; rfl
      refine jq ⟨?_⟩
      exact ⟨htrue ht, hS⟩
     by_cases h2 : c.toNat = 119
     ·have hc : isL c = true := by
       have : c = 119 := UInt8.toNat_inj.1 h2
       subst this; rfl
      have ht : nameN c r n = true := by unfold nameN; rw [decide_eq_true hr, hc, decide_eq_true (by omega)]; rfl
      refine jq ⟨?_⟩
      exact ⟨htrue ht, hS⟩
     by_cases h3 : c.toNat = 109
     ·have hc : isL c = true := by
       have : c = 109 := UInt8.toNat_inj.1 h3
       subst this; rfl
      have ht : nameN c r n = true := by unfold nameN; rw [decide_eq_true hr, hc, decide_eq_true (by omega)]; rfl
      refine jq ⟨?_⟩
      exact ⟨htrue ht, hS⟩
     have hc : isL c = false := not_isL h1 h2 h3
     have hf : nameN c r n = false := by unfold nameN; rw [hc]; simp
     refine jq ⟨?_⟩
     exact ⟨hfalse hf, hS⟩
    ·have hf : nameN c r n = false := by unfold nameN; rw [decide_eq_false hr]; simp
     rw [decide_eq_false hr]
     refine jq ⟨?_⟩
     exact ⟨hfalse hf, hS⟩
  ·have hne : Lib.itoa n ≠ r := fun e => ha n (by rw [← e]; exact atoi_itoa hrng.1 hrng.2)
   have hf : nameN c r n = false := by unfold nameN; rw [decide_eq_false hne]; simp
   refine jq ⟨?_⟩
   refine SemW.draw tblOk mixed (fun w' => St w [] [] w') [] [0, 1, 2, 3, 4, 5, 6, 7, 9, 10, 8, 11, 12] (by kernel_rfl) hS.drew ?_
   have hS := hS.drew
   generalize w2.drew = w2 at hS
   refine jr ⟨?_⟩
   refine neqHeld tblOk rfl rfl ?_
   refine jr ⟨?_⟩
   refine jq ⟨?_⟩
   exact ⟨hfalse hf, hS⟩
end Go.Proofs.YtkgibdhpijdbfaaGreatDoor
namespace Go.Proofs.YtkgibdhpijdbfaaGreatDoor
open Go Go.Eng Go.Proofs
abbrev powN : String := "internal/strconv.uint64pow10"
structure Glob (w : World) (T : List Nat) : Prop where
 err : ErrVars w
 tab : TabW w
 e0 : errG0 ∉ T
 e1 : errG1 ∉ T
 pow : ∀ g, Tryz.prog.globalNamed powN = some g → g ∉ T
theorem TabW.keepT {w0 w : World} {T : List Nat} {H : Heap} (h : TabW w0) (hS : St w0 T H w) (hT : ∀ g, Tryz.prog.globalNamed powN = some g → g ∉ T) : TabW w ∧ ∀ g, Tryz.prog.globalNamed powN = some g → g < w0.heap.size := by
 unfold TabW Lib.TabIs World.var? at *
 cases hg : Tryz.prog.globalNamed "internal/strconv.uint64pow10" with
 |none => simp [hg] at h
 |some g =>
  simp only [hg, Option.bind_some] at h ⊢
  have hlt : g < w0.heap.size := by
   rcases Nat.lt_or_ge g w0.heap.size with h' | h'
   ·exact h'
   ·rw [Array.getElem?_eq_none h'] at h; simp at h
  refine ⟨?_, fun g' e => by cases e; exact hlt⟩
  rw [hS.old g hlt (hT g hg)]
  exact h
theorem Glob.keep {w0 w : World} {T : List Nat} {H : Heap} (h : Glob w0 T) (hS : St w0 T H w) : Glob w T := ⟨h.err.keep hS h.e0 h.e1, (h.tab.keepT hS h.pow).1, h.e0, h.e1, h.pow⟩
theorem cell_lt {w : World} {b : Nat} {v : Value} (h : w.cell? ⟨b, 0, none⟩ = some v) : b < w.heap.size := by
 rcases Nat.lt_or_ge b w.heap.size with h' | h'
 ·exact h'
 ·simp [World.cell?, Array.getElem?_eq_none h'] at h
theorem Glob.step {w0 w : World} {T : List Nat} {H : Heap} (h : Glob w0 T) (hS : St w0 T H w) : Glob w (keys H) := by
 have hk : ∀ b, b < w0.heap.size → b ∉ T → b ∉ keys H := fun b h1 h2 h3 => by
  unfold keys at h3
  obtain ⟨p, hp, rfl⟩ := kAm.1 h3
  exact h2 (hS.fresh p hp h1)
 obtain ⟨⟨_, _, e0⟩, ⟨_, _, e1⟩⟩ := h.err
 exact ⟨h.err.keep hS h.e0 h.e1, (h.tab.keepT hS h.pow).1, hk _ (cell_lt e0) h.e0, hk _ (cell_lt e1) h.e1, fun g hg => hk _ ((h.tab.keepT hS h.pow).2 g hg) (h.pow g hg)⟩
theorem Glob.sub {w : World} {T T' : List Nat} (h : Glob w T) (hs : ∀ b, b ∈ T' → b ∈ T) : Glob w T' := ⟨h.err, h.tab, fun x => h.e0 (hs _ x), fun x => h.e1 (hs _ x), fun g hg x => h.pow g hg (hs _ x)⟩
theorem StO.fs {sb f : Nat} {s : StM} {m : FSm} {L : Heap} (hO : StO sb f s m L) : ∃ o R LF, L = (sb, o) :: (R ++ LF) ∧ FSo f m LF ∧ ∀ m' LF', FSo f m' LF' → StO sb f s m' ((sb, o) :: (R ++ LF')) := by
 obtain ⟨sq, es, c, hsq, ha, hc, Lh, hvh, a, ca, La, hv, lv, Ll, hl, gv, Lg, hg, mb, Lm, hm, tm, et, ct, ks, ht, Lt, hts, LF, hF⟩ := hO
 refine ⟨.cells ⟨[.int .i64 s.given, .map (some sq), ptr f, .int .i64 s.memMax, .int .i64 s.fan, .slice ha s.hts.length hc, .slice a s.v.files.length ca, .int .i64 s.v.wal, .int .i64 s.v.next, .int .i64 s.v.seq, lv, gv, ptr mb, .map (some tm), .int .i64 s.seq, .bool s.dead]⟩ T_store_Store (0, 0), (sq, .map es c) :: (tm, .map et ct) :: (Lh ++ (La ++ (Ll ++ (Lg ++ (Lm ++ Lt))))), LF, by simp, hF, fun m' LF' hF' => ?_⟩
 have := StO.mk (sb := sb) (m := m') sq es c hsq ha hc Lh hvh a ca La hv lv Ll hl gv Lg hg mb Lm hm tm et ct ks ht Lt hts LF' hF'
 simpa using this
theorem StO.down {w : World} {sb f : Nat} {s : StM} {m : FSm} {L : Heap} (hO : StO sb f s m L) (hh : Holds L w) : Cl Tryz.prog f_vfs_power_Down [ptr f] w fun v w' => v = .bool m.off ∧ St w (keys L) L w' := by
 obtain ⟨o, R, LF, rfl, hF, hm⟩ := hO.fs
 have hS := St.enter hh
 refine (Down_spec hF (hS.part (L := LF))).mono ?_
 rintro _ w1 ⟨rfl, hS'⟩
 exact ⟨rfl, hS.call (L := LF) hS'⟩
theorem StO.read {w : World} {sb f : Nat} {s : StM} {m : FSm} {L : Heap} (hO : StO sb f s m L) (hh : Holds L w) (name : Bytes) : Cl Tryz.prog f_vfs_FS_Read [ptr f, Str name] w fun v w' => v = .tuple ⟨[Str (findM m name).1.1, .int .i64 (findM m name).2]⟩ ∧ St w (keys L) L w' := by
 obtain ⟨o, R, LF, rfl, hF, hm⟩ := hO.fs
 have hS := St.enter hh
 refine (FRead_spec hF (hS.part (L := LF)) name).mono ?_
 rintro _ w1 ⟨rfl, hS'⟩
 exact ⟨rfl, hS.call (L := LF) hS'⟩
theorem StO.file {w : World} {sb f A : Nat} {s : StM} {m : FSm} {L : Heap} (hO : StO sb f s m L) (hh : Holds L w) (name t : Bytes) (ht : t.length ≤ 1099511627776) (hB : FB A m) (hA : A + 3 ≤ 9223372036854775807) :
  Cl Tryz.prog f_store_Store_file [ptr sb, Str name, Str t] w fun v w' => v = .int .i64 (fileM m name t).1 ∧ ∃ L', StO sb f s (fileM m name t).2 L' ∧ St w (keys L) L' w' := by
 have hc := hO.fC hh
 obtain ⟨o, R, LF, rfl, hF, hm⟩ := hO.fs
 have hS := St.enter hh
 refine (file_spec hF (hS.part (L := LF)) hc (nodup_chunk hS) name t ht hB hA).mono ?_
 rintro _ w1 ⟨rfl, L1, hF1, hS'⟩
 exact ⟨rfl, _, hm _ _ hF1, hS.call (L := LF) hS'⟩
theorem StO.rewrite {w : World} {sb f A : Nat} {s : StM} {m : FSm} {L : Heap} (hO : StO sb f s m L) (hh : Holds L w) (name : Bytes) {a : Option Addr} {cap : Nat} {ps : List Bytes} (ha : Arr w (keys L) a (ps.map Str)) (hlen : sumLen ps + 8 * ps.length ≤ 1099511627776) (hB : FB A m) (hA : A + 3 ≤ 9223372036854775807) :
  Cl Tryz.prog f_wal_Rewrite [ptr f, Str name, .slice a ps.length cap] w fun v w' => v = .int .i64 (rewriteM m name ps).1 ∧ ∃ L', StO sb f s (rewriteM m name ps).2 L' ∧ St w (keys L) L' w' := by
 obtain ⟨o, R, LF, rfl, hF, hm⟩ := hO.fs
 have hS := St.enter hh
 refine (Rewrite_spec hF (hS.part (L := LF)) name (ha.sub fun b hb => by
  simp only [keys, kAh, kAi, kAf, kAl]; exact .inr (.inr hb)) hlen hB hA).mono ?_
 rintro _ w1 ⟨rfl, L1, hF1, hS'⟩
 exact ⟨rfl, _, hm _ _ hF1, hS.call (L := LF) hS'⟩
theorem StO.rename {w : World} {sb f A : Nat} {s : StM} {m : FSm} {L : Heap} (hO : StO sb f s m L) (hh : Holds L w) (x y : Bytes) (hB : FB A m) (hA : A + 1 ≤ 9223372036854775807) :
  Cl Tryz.prog f_vfs_FS_Rename [ptr f, Str x, Str y] w fun v w' => v = .int .i64 (renameM m x y).1 ∧ ∃ L', StO sb f s (renameM m x y).2 L' ∧ St w (keys L) L' w' := by
 obtain ⟨o, R, LF, rfl, hF, hm⟩ := hO.fs
 have hS := St.enter hh
 refine (Rename_spec hF (hS.part (L := LF)) x y (by have := hB.armed; omega) (by have := hB.acts; omega)).mono ?_
 rintro _ w1 ⟨rfl, L1, hF1, hS'⟩
 exact ⟨rfl, _, hm _ _ hF1, hS.call (L := LF) hS'⟩
theorem StO.delete {w : World} {sb f A : Nat} {s : StM} {m : FSm} {L : Heap} (hO : StO sb f s m L) (hh : Holds L w) (x : Bytes) (hB : FB A m) (hA : A + 1 ≤ 9223372036854775807) :
  Cl Tryz.prog f_vfs_FS_Delete [ptr f, Str x] w fun v w' => v = .int .i64 (deleteM m x).1 ∧ ∃ L', StO sb f s (deleteM m x).2 L' ∧ St w (keys L) L' w' := by
 obtain ⟨o, R, LF, rfl, hF, hm⟩ := hO.fs
 have hS := St.enter hh
 refine (Delete_spec hF (hS.part (L := LF)) x (by have := hB.armed; omega) (by have := hB.acts; omega)).mono ?_
 rintro _ w1 ⟨rfl, L1, hF1, hS'⟩
 exact ⟨rfl, _, hm _ _ hF1, hS.call (L := LF) hS'⟩
theorem StO.list {w : World} {sb f A : Nat} {s : StM} {m : FSm} {L : Heap} (hO : StO sb f s m L) (hh : Holds L w) (hB : FB A m) (hA : A ≤ 1099511627776) :
  Cl Tryz.prog f_vfs_FS_List [ptr f] w fun v w' => (m.off = true ∧ v = .tuple ⟨[.slice none 0 0, .int .i64 7]⟩ ∧ St w (keys L) L w') ∨ (m.off = false ∧ ∃ (ns : List Bytes) (a : Option Addr) (cap : Nat) (Lv : Heap), ns.Perm (m.files.map (·.1)) ∧ v = .tuple ⟨[.slice a ns.length cap, .int .i64 0]⟩ ∧ Vec T_string 1 a ns.length cap (ns.map Str) Lv ∧ St w (keys L) (Lv ++ L) w') := by
 obtain ⟨o, R, LF, rfl, hF, hm⟩ := hO.fs
 have hS := St.enter hh
 refine (FList_spec hF (hS.part (L := LF)) hB hA).mono ?_
 rintro _ w1 (⟨h1, rfl, hS'⟩ | ⟨h1, ns, a, cap, Lv, hp, rfl, hv, hS'⟩)
 ·exact .inl ⟨h1, rfl, hS.call (L := LF) hS'⟩
 ·refine .inr ⟨h1, ns, a, cap, Lv, hp, rfl, hv, ?_⟩
  refine St.perm (hS.call (L := LF) hS') ?_
  refine (List.Perm.cons _ (kCq R Lv LF)).trans ?_
  exact kBg.symm
theorem StO.wopen {w : World} {sb f A : Nat} {s : StM} {m : FSm} {L : Heap} (hO : StO sb f s m L) (hh : Holds L w) (name : Bytes) (h0 : openE m name = 0) (hB : FB A m) :
  Cl Tryz.prog f_wal_Open [ptr f, Str name] w fun v w' => ∃ bl a cap Lv, v = .tuple ⟨[ptr bl, .slice a (scan (findM m name).1.1).1.length cap, .int .i64 0]⟩ ∧
   Vec T_string 1 a (scan (findM m name).1.1).1.length cap ((scan (findM m name).1.1).1.map Str) Lv ∧ LogP f (some (openL m name)) (ptr bl) [(bl, logC f name (openL m name).n (openL m name).torn false)] ∧
   St w (keys L) (Lv ++ (bl, logC f name (openL m name).n (openL m name).torn false) :: L) w' := by
 obtain ⟨o, R, LF, rfl, hF, hm⟩ := hO.fs
 have hS := St.enter hh
 refine (Open_ok hF (hS.part (L := LF)) name h0 (hB.find name)).mono ?_
 rintro _ w1 ⟨bl, a, cap, Lv, -, rfl, hv, hS'⟩
 refine ⟨bl, a, cap, Lv, rfl, hv, LogP.some bl (openL m name), ?_⟩
 have hS := hS.call (L := LF) hS'
 refine St.perm hS ?_
 refine (List.Perm.cons _ ?_).trans (kBg.symm.trans (List.Perm.append_left _ (List.Perm.swap _ _ _)))
 refine (kCq R Lv _).trans (List.Perm.append_left _ ?_)
 exact kBg
theorem StO.wopenE {w : World} {sb f : Nat} {s : StM} {m : FSm} {L : Heap} (hO : StO sb f s m L) (hh : Holds L w) (name : Bytes) (h0 : openE m name ≠ 0) :
  Cl Tryz.prog f_wal_Open [ptr f, Str name] w fun v w' => v = .tuple ⟨[.pointer none, .slice none 0 0, .int .i64 (openE m name)]⟩ ∧ St w (keys L) L w' := by
 obtain ⟨o, R, LF, rfl, hF, hm⟩ := hO.fs
 have hS := St.enter hh
 refine (Open_err hF (hS.part (L := LF)) name h0).mono ?_
 rintro _ w1 ⟨rfl, hS'⟩
 exact ⟨rfl, hS.call (L := LF) hS'⟩
theorem keys_perm {L M : Heap} (h : L.Perm M) (b : Nat) : b ∈ keys L ↔ b ∈ keys M := (h.map (·.1)).mem_iff
theorem Holds.perm {L M : Heap} {w : World} (h : Holds L w) (hp : L.Perm M) : Holds M w := ((St.enter h).perm hp).holds
def logO (f : Nat) (g : LogM) : Obj := logC f g.name g.n g.torn g.dead
theorem StO.lg {sb f : Nat} {s : StM} {m : FSm} {L : Heap} (hO : StO sb f s m L) {g : LogM} (hg : s.log = some g) : ∃ bl R LF, L.Perm ((bl, logO f g) :: (LF ++ R)) ∧ FSo f m LF ∧ (∀ w, Holds L w → w.cell? ⟨sb, 11, none⟩ = some (ptr bl)) ∧
  ∀ g' m' LF', FSo f m' LF' → ∃ L', StO sb f { s with log := some g' } m' L' ∧ L'.Perm ((bl, logO f g') :: (LF' ++ R)) := by
 obtain ⟨sq, es, c, hsq, ha, hc, Lh, hvh, a, ca, La, hv, lv, Ll, hl, gv, Lg, hgp, mb, Lm, hm, tm, et, ct, ks, ht, Lt, hts, LF, hF⟩ := hO
 rw [hg] at hgp
 cases hgp
 rename_i bl
 have key : ∀ (p q r x : Nat × Obj) (LF : Heap), (p :: q :: r :: (Lh ++ (La ++ (Ll ++ ([x] ++ (Lm ++ (Lt ++ LF))))))).Perm (x :: (LF ++ (p :: q :: r :: (Lh ++ (La ++ (Ll ++ (Lm ++ Lt))))))) := by
  intro p q r x LF
  have h1 : (p :: q :: r :: (Lh ++ (La ++ (Ll ++ ([x] ++ (Lm ++ (Lt ++ LF))))))).Perm (x :: (p :: q :: r :: (Lh ++ (La ++ (Ll ++ (Lm ++ (Lt ++ LF))))))) := by
   rw [show (p :: q :: r :: (Lh ++ (La ++ (Ll ++ ([x] ++ (Lm ++ (Lt ++ LF))))))) = ((p :: q :: r :: (Lh ++ (La ++ Ll))) ++ x :: (Lm ++ (Lt ++ LF))) by simp]
   refine kBg.trans (.cons _ ?_)
   simp
  refine h1.trans (.cons _ ?_)
  rw [show (p :: q :: r :: (Lh ++ (La ++ (Ll ++ (Lm ++ (Lt ++ LF)))))) = ((p :: q :: r :: (Lh ++ (La ++ (Ll ++ (Lm ++ Lt))))) ++ LF) by simp]
  exact kCi
 refine ⟨bl, _, LF, key _ _ _ _ LF, hF, fun w hw => (St.enter hw).cell (b := sb) (off := 11) rfl, fun g' m' LF' hF' => ⟨_, StO.mk (s := { s with log := some g' }) sq es c hsq ha hc Lh hvh a ca La hv lv Ll hl (ptr bl) _ (LogP.some bl g') mb Lm hm tm et ct ks ht Lt hts LF' hF', key _ _ _ _ LF'⟩⟩
theorem StO.ls {sb f : Nat} {s : StM} {m : FSm} {L : Heap} (hO : StO sb f s m L) {g : LogM} (hg : s.list = some g) : ∃ bl R LF, L.Perm ((bl, logO f g) :: (LF ++ R)) ∧ FSo f m LF ∧ (∀ w, Holds L w → w.cell? ⟨sb, 10, none⟩ = some (ptr bl)) ∧
  ∀ g' m' LF', FSo f m' LF' → ∃ L', StO sb f { s with list := some g' } m' L' ∧ L'.Perm ((bl, logO f g') :: (LF' ++ R)) := by
 obtain ⟨sq, es, c, hsq, ha, hc, Lh, hvh, a, ca, La, hv, lv, Ll, hl, gv, Lg, hgp, mb, Lm, hm, tm, et, ct, ks, ht, Lt, hts, LF, hF⟩ := hO
 rw [hg] at hl
 cases hl
 rename_i bl
 have key : ∀ (p q r x : Nat × Obj) (LF : Heap), (p :: q :: r :: (Lh ++ (La ++ ([x] ++ (Lg ++ (Lm ++ (Lt ++ LF))))))).Perm (x :: (LF ++ (p :: q :: r :: (Lh ++ (La ++ (Lg ++ (Lm ++ Lt))))))) := by
  intro p q r x LF
  have h1 : (p :: q :: r :: (Lh ++ (La ++ ([x] ++ (Lg ++ (Lm ++ (Lt ++ LF))))))).Perm (x :: (p :: q :: r :: (Lh ++ (La ++ (Lg ++ (Lm ++ (Lt ++ LF))))))) := by
   rw [show (p :: q :: r :: (Lh ++ (La ++ ([x] ++ (Lg ++ (Lm ++ (Lt ++ LF))))))) = ((p :: q :: r :: (Lh ++ La)) ++ x :: (Lg ++ (Lm ++ (Lt ++ LF)))) by simp]
   refine kBg.trans (.cons _ ?_)
   simp
  refine h1.trans (.cons _ ?_)
  rw [show (p :: q :: r :: (Lh ++ (La ++ (Lg ++ (Lm ++ (Lt ++ LF)))))) = ((p :: q :: r :: (Lh ++ (La ++ (Lg ++ (Lm ++ Lt))))) ++ LF) by simp]
  exact kCi
 refine ⟨bl, _, LF, key _ _ _ _ LF, hF, fun w hw => (St.enter hw).cell (b := sb) (off := 10) rfl, fun g' m' LF' hF' => ⟨_, StO.mk (s := { s with list := some g' }) sq es c hsq ha hc Lh hvh a ca La hv (ptr bl) _ (LogP.some bl g') gv Lg hgp mb Lm hm tm et ct ks ht Lt hts LF' hF', key _ _ _ _ LF'⟩⟩
theorem StO.append {w : World} {sb f A : Nat} {s : StM} {m : FSm} {L : Heap} (hO : StO sb f s m L) (hh : Holds L w) {g : LogM} (hg : s.log = some g) {a : Option Addr} {cap : Nat} {ps : List Bytes} (ha : Arr w (keys L) a (ps.map Str))
  (hps : sumLen ps + 8 * ps.length + ((fget m g.name).getD ([], 0)).1.length ≤ 140737488355328) (hn : g.n + ps.length ≤ 9223372036854775807) (hB : FB A m) (hA : A + 2 ≤ 9223372036854775807) :
  ∃ bl, (∀ w, Holds L w → w.cell? ⟨sb, 11, none⟩ = some (ptr bl)) ∧ Cl Tryz.prog f_wal_Log_Append [ptr bl, .slice a ps.length cap] w fun v w' => v = .int .i64 (appL m g ps).1 ∧ ∃ L', StO sb f { s with log := some (appL m g ps).2.1 } (appL m g ps).2.2 L' ∧ St w (keys L) L' w' := by
 obtain ⟨bl, R, LF, hp, hF, hc, hm⟩ := hO.lg hg
 refine ⟨bl, hc, ?_⟩
 have hS := (St.enter hh).perm hp
 refine (LogAppend_spec (n := g.n) (torn := g.torn) (dead := g.dead) (name := g.name) hF (hS.sub (.cons_cons _ (kBk _ _))).holds (ha.sub fun b hb => by
  have : b ∈ keys ((bl, logO f g) :: (LF ++ R)) := by
   unfold keys at hb ⊢
   rw [kAh, kAf] at hb ⊢
   rcases hb with h | h
   ·exact .inl h
   ·rw [kAi]; exact .inr (kBm _ h)
  exact (keys_perm hp b).2 this) hps hn (by have := hB.armed; omega) (by have := hB.acts; omega)).mono ?_
 rintro _ w1 ⟨rfl, L1, hF1, hS'⟩
 refine ⟨rfl, ?_⟩
 obtain ⟨L2, hO2, hp2⟩ := hm (appL m g ps).2.1 _ L1 hF1
 refine ⟨L2, hO2, ?_⟩
 have hS2 : St w (keys L) ([(bl, logO f g)] ++ LF ++ R) w := by simpa using hS
 have hS3 := St.call (L := [(bl, logO f g)] ++ LF) hS2 hS'
 refine St.perm ?_ hp2.symm
 simp only [kBe, kBj, kAc] at hS3
 exact hS3
theorem StO.lappend {w : World} {sb f A : Nat} {s : StM} {m : FSm} {L : Heap} (hO : StO sb f s m L) (hh : Holds L w) {g : LogM} (hg : s.list = some g) {a : Option Addr} {cap : Nat} {ps : List Bytes} (ha : Arr w (keys L) a (ps.map Str))
  (hps : sumLen ps + 8 * ps.length + ((fget m g.name).getD ([], 0)).1.length ≤ 140737488355328) (hn : g.n + ps.length ≤ 9223372036854775807) (hB : FB A m) (hA : A + 2 ≤ 9223372036854775807) :
  ∃ bl, (∀ w, Holds L w → w.cell? ⟨sb, 10, none⟩ = some (ptr bl)) ∧ Cl Tryz.prog f_wal_Log_Append [ptr bl, .slice a ps.length cap] w fun v w' => v = .int .i64 (appL m g ps).1 ∧ ∃ L', StO sb f { s with list := some (appL m g ps).2.1 } (appL m g ps).2.2 L' ∧ St w (keys L) L' w' := by
 obtain ⟨bl, R, LF, hp, hF, hc, hm⟩ := hO.ls hg
 refine ⟨bl, hc, ?_⟩
 have hS := (St.enter hh).perm hp
 refine (LogAppend_spec (n := g.n) (torn := g.torn) (dead := g.dead) (name := g.name) hF (hS.sub (.cons_cons _ (kBk _ _))).holds (ha.sub fun b hb => by
  have : b ∈ keys ((bl, logO f g) :: (LF ++ R)) := by
   unfold keys at hb ⊢
   rw [kAh, kAf] at hb ⊢
   rcases hb with h | h
   ·exact .inl h
   ·rw [kAi]; exact .inr (kBm _ h)
  exact (keys_perm hp b).2 this) hps hn (by have := hB.armed; omega) (by have := hB.acts; omega)).mono ?_
 rintro _ w1 ⟨rfl, L1, hF1, hS'⟩
 refine ⟨rfl, ?_⟩
 obtain ⟨L2, hO2, hp2⟩ := hm (appL m g ps).2.1 _ L1 hF1
 refine ⟨L2, hO2, ?_⟩
 have hS2 : St w (keys L) ([(bl, logO f g)] ++ LF ++ R) w := by simpa using hS
 have hS3 := St.call (L := [(bl, logO f g)] ++ LF) hS2 hS'
 refine St.perm ?_ hp2.symm
 simp only [kBe, kBj, kAc] at hS3
 exact hS3
end Go.Proofs.YtkgibdhpijdbfaaGreatDoor
namespace Go.Proofs.YtkgibdhpijdbfaaGreatDoor
open Go Go.Eng Go.Proofs Go.Srt
set_option maxHeartbeats 4000000 in
theorem Whole_spec {w : World} {a : Option Addr} {c : Nat} {v : VM} (hv : VersAt w a c v) (hlen : v.files.length ≤ 16777216) :
  Cl Tryz.prog f_manifest_Whole [.agg ⟨versC a c v⟩] w fun r w' => ∃ a' c' L, r = .agg ⟨editC a' none c' 0 (wholeE v)⟩ ∧ Vec T_api_File 2 a' v.files.length c' (v.files.flatMap fileC) L ∧ St w [] L w' := by
 have hS := St.start w
 unfold versC
 refine en_manifest_Whole rfl ?_
 refine jq ⟨?_⟩
 refine hS.al ?_
 intro b1 w1 _ hS
 refine jq ⟨?_⟩
 refine hS.al ?_
 intro b2 w2 _ hS
 refine jq ⟨?_⟩
 refine SemW.draw tblOk mixed (fun w' => St w [] [(b2, .cells ⟨[.slice none 0 0, .slice none 0 0, .int .i64 0, .int .i64 0, .int .i64 0]⟩ T_api_Edit (0, 0)), (b1, .cells ⟨[.slice a v.files.length c, .int .i64 v.wal, .int .i64 v.next, .int .i64 v.seq]⟩ T_api_Version (0, 0))] w') [10] [0, 1, 3, 4, 5, 6, 7, 8, 2, 9, 10] (by kernel_rfl) hS.drew ?_
 have hS := hS.drew
 generalize w2.drew = w2 at hS
 refine jr ⟨?_⟩
 refine (Clone_spec (hv.files.keep hS.nil) hlen).mono ?_
 rintro _ w3 ⟨a3, c3, L3, rfl, hv3, hS'⟩
 have hS := hS.callNew hS'
 refine Chk.mk (hS.sub (kAj _ _)) ?_
 (repeat (refine jt ⟨?_⟩; refine hS.st rfl rfl ?_; intro _ hS)); refine jt ⟨?_⟩
 exact ⟨a3, c3, L3, rfl, hv3, hS.sub (kBk _ _)⟩
end Go.Proofs.YtkgibdhpijdbfaaGreatDoor
namespace Go.Eng
open Go
inductive VecO (e : TypeId) : Option Addr → Nat → Nat → List Value → Heap → Prop where
 |nil : VecO e none 0 0 [] []
 |row (g : Nat) (pre xs l post : List Value) (n cap : Nat) (fz : Nat × Nat) (hf : fz.2 ≤ pre.length ∨ (pre ++ (xs ++ (l ++ post))).length ≤ fz.1) (hx : xs.length = n) (hl : xs.length + l.length = cap) : VecO e (some ⟨g, pre.length, none⟩) n cap xs [(g, .cells ⟨pre ++ (xs ++ (l ++ post))⟩ e fz)]
theorem VecO.of {e : TypeId} {a : Option Addr} {n cap : Nat} {xs : List Value} {L : Heap} (h : Vec e 1 a n cap xs L) : VecO e a n cap xs L := by
 cases h with
 |nil => exact .nil
 |row g n cap xs l hx hl hn =>
  have := VecO.row (e := e) g [] xs l [] n cap (0, 0) (.inl (kAg _)) (by omega) (by omega)
  simpa using this
theorem VecO.len {e : TypeId} {a : Option Addr} {n cap : Nat} {xs : List Value} {L : Heap} (h : VecO e a n cap xs L) : xs.length = n ∧ n ≤ cap := by
 cases h with
 |nil => exact ⟨rfl, kAd _⟩
 |row g pre xs l post n cap fz hf hx hl => exact ⟨hx, by omega⟩
theorem VecO.pos {e : TypeId} {a : Option Addr} {n cap : Nat} {xs : List Value} {L : Heap} (h : VecO e a n cap xs L) (hn : 0 < n) : ∃ b off, a = some ⟨b, off, none⟩ := by
 cases h with
 |nil => omega
 |row g pre xs l post n cap fz hf hx hl => exact ⟨g, _, rfl⟩
theorem VecO.arr {e : TypeId} {a : Option Addr} {n cap : Nat} {xs : List Value} {L : Heap} (h : VecO e a n cap xs L) {w0 w : World} {T T' : List Nat} {H : Heap} {F : Heap → Heap} (hS : St w0 T H w) [hc : Chunk H L F]
  (hT : ∀ b ∈ keys L, b ∉ T') : Arr w T' a xs := by
 cases h with
 |nil => exact Arr.nil _ _ _
 |row g pre xs l post n cap fz hf hx hl =>
  intro j x hj
  have hm := hS.part (L := [(g, Obj.cells ⟨pre ++ (xs ++ (l ++ post))⟩ e fz)]).own _ (kAy.2 rfl)
  refine ⟨g, pre.length, rfl, hT g (by simp [keys]), ?_⟩
  have hlt : j < xs.length := (kBt.1 hj).1
  simp only [World.cell?, hm]
  simp only [kDj, Bool.false_eq_true, if_false]
  rw [show (Array.mk (pre ++ (xs ++ (l ++ post))))[pre.length + j]? = (pre ++ (xs ++ (l ++ post)))[pre.length + j]? by simp, kBh (by omega), show pre.length + j - pre.length = j by omega, kAz hlt]
  exact hj
theorem VecO.drop {e : TypeId} {b off n cap k : Nat} {xs : List Value} {L : Heap} (h : VecO e (some ⟨b, off, none⟩) n cap xs L) (hk : k ≤ n) : VecO e (subA b off k cap 1) (n - k) (cap - k) (xs.drop k) L := by
 cases h with
 |row g pre xs l post n cap fz hf hx hl =>
  unfold subA
  split
  ·rename_i hc
   have h1 : l = [] := kCu (by omega)
   have h2 : xs.drop k = [] := List.drop_eq_nil_iff.2 (by omega)
   have := VecO.row (e := e) b pre [] [] (xs ++ (l ++ post)) 0 0 fz hf rfl rfl
   rw [h2, show n - k = 0 by omega, show cap - k = 0 by omega]
   simpa using this
  ·have e2 : pre ++ xs.take k ++ (xs.drop k ++ (l ++ post)) = pre ++ (xs ++ (l ++ post)) := by
    rw [kAc, ← kAc (xs.take k), kAu]
   have := VecO.row (e := e) b (pre ++ xs.take k) (xs.drop k) l post (n - k) (cap - k) fz (by
    rw [e2]; rcases hf with hf | hf
    ·exact .inl (by rw [kAa]; omega)
    ·exact .inr hf) (by simp; omega) (by simp; omega)
   have e1 : (pre ++ xs.take k).length = pre.length + k * 1 := by simp; omega
   rw [e1, e2] at this
   exact this
section
variable {P : Program} {T0 : Tbl}
end
end Go.Eng
namespace Go.Eng
open Go
section
variable {P : Program} {T0 : Tbl}
end
end Go.Eng
namespace Go.Proofs.YtkgibdhpijdbfaaGreatDoor
open Go Go.Eng Go.Proofs
end Go.Proofs.YtkgibdhpijdbfaaGreatDoor
namespace Go.Proofs.YtkgibdhpijdbfaaGreatDoor
open Go Go.Eng Go.Proofs Go.Srt
def encV (e : EM) : Value := if rightE e then .tuple ⟨[Str (editB e), .int .i64 0]⟩ else .tuple ⟨[Str [], .int .i64 11]⟩
theorem filesB_succ (l : List FileM) (k : Nat) (hk : k < l.length) : filesB (l.take (k + 1)) = filesB (l.take k) ++ fileB l[k] := by
 unfold filesB
 rw [kAn hk, kAi, kBy]; simp
theorem intB_len11 (z : Int) (h : i64ok z) : (intB z).length ≤ 10 := numB_len10 _ (zig_ok h)
theorem filesB_len (l : List FileM) (h : ∀ f ∈ l, i64ok f.1 ∧ i64ok f.2) : (filesB l).length ≤ 20 * l.length := by
 induction l with
 |nil => simp [filesB]
 |cons f l ih =>
  have h1 := h f (by simp)
  have h2 := intB_len11 _ h1.1
  have h3 := intB_len11 _ h1.2
  have h4 := ih fun g hg => h g (by simp [hg])
  simp only [filesB, fileB, kAh, kBi, kAa, kAe] at h4 ⊢
  omega
theorem intsB_two (f : FileM) : intsB [f.1, f.2] = fileB f := by simp [intsB, fileB]
theorem two_ok {f : FileM} (h : i64ok f.1 ∧ i64ok f.2) : ∀ z ∈ [f.1, f.2], i64ok z := by
 intro z hz
 simp only [kAf, List.mem_nil_iff, or_false] at hz
 rcases hz with rfl | rfl
 ·exact h.1
 ·exact h.2
set_option maxHeartbeats 8000000 in
theorem Encode_spec {w : World} {a b : Option Addr} {ca cb : Nat} {e : EM} (he : EditAt w a b ca cb e) (ho : OkE e) :
  Cl Tryz.prog f_manifest_Encode [.agg ⟨editC a b ca cb e⟩] w fun v w' => v = encV e ∧ St w [] [] w' := by
 have hS := St.start w
 have hl := he.len
 have hcl := filesC_len e.add
 have hfl := filesB_len e.add ho.add
 have hil := ints_len e.del ho.del
 have hn1 := numB_len10 e.add.length (by omega)
 have hn2 := numB_len10 e.del.length (by omega)
 unfold editC encV
 refine en_manifest_Encode rfl ?_
 refine jq ⟨?_⟩
 refine hS.al ?_
 intro b1 w1 _ hS
 (repeat (refine jt ⟨?_⟩; refine hS.st rfl rfl ?_; intro _ hS)); refine jt ⟨?_⟩
 refine (right_spec (he.keep hS)).mono ?_
 rintro _ w2 ⟨rfl, hS'⟩
 have hS := hS.call0 hS'
 cases hr : rightE e with
 |false =>
  (repeat (refine jt ⟨?_⟩; refine hS.st rfl rfl ?_; intro _ hS)); refine jt ⟨?_⟩
  exact ⟨rfl, hS.nil⟩
 |true =>
  (repeat (refine jt ⟨?_⟩; refine hS.st rfl rfl ?_; intro _ hS)); refine jt ⟨?_⟩
  refine Cl.mono PNew_spec ?_
  rintro _ w3 ⟨pb, L, rfl, hW, hS'⟩
  have hS := hS.callNew hS'
  (repeat (refine jt ⟨?_⟩; refine hS.st rfl rfl ?_; intro _ hS)); refine jt ⟨?_⟩
  refine hS.al ?_
  intro r w4 _ hS
  (repeat (refine jt ⟨?_⟩; refine hS.st rfl rfl ?_; intro _ hS)); refine jt ⟨?_⟩
  refine Cl.mono (Num_spec hW (hS.part (L := L)) (ns := [e.add.length]) (hS.arr (b := r) (nodup_chunk hS)) (by intro n hn; simp only [kAf, List.mem_nil_iff, or_false] at hn; subst hn; omega) (by simp) (by simp)) ?_
  rintro _ w5 ⟨L1, hW, hS'⟩
  have hS := hS.call (L := L) hS'
  have hW : PackW pb (numB e.add.length) L1 := by simpa using hW
  have hS := St.tl1 hS
  (repeat (refine jt ⟨?_⟩; refine hS.st rfl rfl ?_; intro _ hS)); refine jt ⟨?_⟩
  refine SemW.loop (fun k : Nat => [(1, ptr b1), (4, ptr pb), (19, .slice a e.add.length ca), (20, .int .i64 e.add.length), (21, .int .i64 k)])
   (fun k w' => k ≤ e.add.length ∧ ∃ L, PackW pb (numB e.add.length ++ filesB (e.add.take k)) L ∧ St w [] (L ++ [(b1, .cells ⟨[.slice a e.add.length ca, .slice b e.del.length cb, .int .i64 e.wal, .int .i64 e.next, .int .i64 e.seq]⟩ T_api_Edit (0, 0))]) w') (fun k => e.add.length - k) 0
   ⟨rfl, rfl, rfl, rfl, rfl, trivial⟩ ⟨kAg _, L1, by simpa [filesB] using hW, hS⟩ ?_
  clear hS hW hS'
  rintro k w6 ⟨hk, L2, hW, hS⟩
  have htl := filesB_len (e.add.take k) fun f hf => ho.add f (kDd hf)
  rw [kAo] at htl
  by_cases hkl : k < e.add.length
  ·obtain ⟨g, off, rfl⟩ := he.add.pos (by omega)
   have hat := he.add.at hkl
   have hsucc := filesB_succ e.add k hkl
   have hfo := ho.add _ (kAx hkl)
   generalize e.add[k] = f at hat hsucc hfo
   refine jq ⟨?_⟩
   refine Arr.ldn hS he.add.arr rfl (k := k * 2) hat rfl ?_
   unfold fileC
   refine jq ⟨?_⟩
   refine hS.al ?_
   intro b6 w7 _ hS
   (repeat (refine jt ⟨?_⟩; refine hS.st rfl rfl ?_; intro _ hS)); refine jt ⟨?_⟩
   refine hS.al ?_
   intro r2 w8 _ hS
   (repeat (refine jt ⟨?_⟩; refine hS.st rfl rfl ?_; intro _ hS)); refine jt ⟨?_⟩
   refine Cl.mono (Int_spec hW (hS.part (L := L2)) (zs := [f.1, f.2]) (hS.arr (b := r2) (nodup_chunk hS)) (two_ok hfo) (by simp) (by simp only [kAa, kAe, kAq]; omega)) ?_
   rintro _ w9 ⟨L3, hW, hS'⟩
   have hS := hS.call (L := L2) hS'
   refine jq ⟨?_⟩
   exact ⟨k + 1, ⟨rfl, rfl, rfl, rfl, rfl, trivial⟩, ⟨by omega, L3, by rw [hsucc, ← kAc, ← intsB_two]; exact hW, St.tl2 hS⟩, by omega⟩
  ·have hke : k = e.add.length := by omega
   subst hke
   rw [kAr] at hW htl
   (repeat (refine jt ⟨?_⟩; refine hS.st rfl rfl ?_; intro _ hS)); refine jt ⟨?_⟩
   refine hS.al ?_
   intro r w7 _ hS
   (repeat (refine jt ⟨?_⟩; refine hS.st rfl rfl ?_; intro _ hS)); refine jt ⟨?_⟩
   refine Cl.mono (Num_spec hW (hS.part (L := L2)) (ns := [e.del.length]) (hS.arr (b := r) (nodup_chunk hS)) (by intro n hn; simp only [kAf, List.mem_nil_iff, or_false] at hn; subst hn; omega) (by simp) (by simp only [kAa, kAe, kAq]; omega)) ?_
   rintro _ w8 ⟨L3, hW, hS'⟩
   have hS := hS.call (L := L2) hS'
   have hW : PackW pb (numB e.add.length ++ filesB e.add ++ numB e.del.length) L3 := by simpa using hW
   have hS := St.tl1 hS
   (repeat (refine jt ⟨?_⟩; refine hS.st rfl rfl ?_; intro _ hS)); refine jt ⟨?_⟩
   refine Cl.mono (Int_spec hW (hS.part (L := L3)) (zs := e.del) (St.arrNew hS he.del) ho.del (by omega) (by simp only [kAa]; omega)) ?_
   rintro _ w9 ⟨L4, hW, hS'⟩
   have hS := hS.call (L := L3) hS'
   (repeat (refine jt ⟨?_⟩; refine hS.st rfl rfl ?_; intro _ hS)); refine jt ⟨?_⟩
   refine hS.al ?_
   intro r2 w10 _ hS
   (repeat (refine jt ⟨?_⟩; refine hS.st rfl rfl ?_; intro _ hS)); refine jt ⟨?_⟩
   refine Cl.mono (Int_spec hW (hS.part (L := L4)) (zs := [e.wal, e.next, e.seq]) (hS.arr (b := r2) (nodup_chunk hS)) (by
    intro z hz
    simp only [kAf, List.mem_nil_iff, or_false] at hz
    rcases hz with rfl | rfl | rfl
    ·exact ho.wal
    ·exact ho.next
    ·exact ho.seq) (by simp) (by simp only [kAa, kAe, kAq]; omega)) ?_
   rintro _ w11 ⟨L5, hW, hS'⟩
   have hS := hS.call (L := L4) hS'
   (repeat (refine jt ⟨?_⟩; refine hS.st rfl rfl ?_; intro _ hS)); refine jt ⟨?_⟩
   refine Cl.mono (Bytes_spec hW (hS.part (L := L5))) ?_
   rintro _ w12 ⟨rfl, hS'⟩
   have hS := hS.call (L := L5) hS'
   (repeat (refine jt ⟨?_⟩; refine hS.st rfl rfl ?_; intro _ hS)); refine jt ⟨?_⟩
   refine ⟨?_, hS.nil⟩
   simp [editB, intsB]
structure EI11 where
 k : Nat
 out : Bytes
 a : Option Addr
 c : Nat
theorem editsM_len (v : VM) : (editsM v).length = editN v := by simp [editsM]
theorem editsB_len (v : VM) : (editsB v).length = editN v := by simp [editsB, editsM_len]
theorem editsB_succ (v : VM) (k : Nat) (hk : k < editN v) : (editsB v).take (k + 1) = (editsB v).take k ++ [editB (editP v k)] := by
 have h : k < (editsB v).length := by rw [editsB_len]; exact hk
 rw [kAn h]
 simp [editsB, editsM]
theorem right_part {v : VM} (h : rightE (wholeE v) = true) (i : Nat) : rightE (editP v i) = true := by
 unfold rightE at h ⊢
 simp only [Bool.and_eq_true, kBd] at h ⊢
 exact ⟨⟨fun f hf => h.1.1 f (List.mem_of_mem_drop (kDd hf)), h.1.2⟩, h.2⟩
theorem ok_part {v : VM} (h : OkE (wholeE v)) (i : Nat) : OkE (editP v i) :=
 { h with add := fun f hf => h.add f (List.mem_of_mem_drop (kDd hf)) }
theorem files_part {w : World} {a : Option Addr} {c : Nat} {l : List FileM} (ha : Arr w [] a (l.flatMap fileC)) (hc : l.length ≤ c) {g off : Nat} (he : a = some ⟨g, off, none⟩) {p n : Nat} (hp : p + n ≤ l.length) :
  Arr w [] (subA g off p c 2) (((l.drop p).take n).flatMap fileC) := by
 subst he
 have e1 : l.flatMap fileC = (l.take p).flatMap fileC ++ (l.drop p).flatMap fileC := by rw [← files_app, kAu]
 rw [e1] at ha
 have hlen := filesC_len (l.take p)
 rw [kAo, Nat.min_eq_left (by omega)] at hlen
 have h1 := ha.dropS (k := p) (sz := 2) (cap := c) hlen (fun h => by
  rcases Nat.lt_or_ge p l.length with h2 | h2
  ·omega
  ·rw [List.drop_of_length_le h2] at h; exact absurd rfl h)
 have e2 : (l.drop p).flatMap fileC = ((l.drop p).take n).flatMap fileC ++ ((l.drop p).drop n).flatMap fileC := by rw [← files_app, kAu]
 intro j x hx
 have hj : ((l.drop p).flatMap fileC)[j]? = some x := by
  rw [e2, kAz (kBt.1 hx).1]; exact hx
 exact h1 j x hj
theorem edit_part {w : World} {g c : Nat} {v : VM} (ha : Arr w [] (some ⟨g, 0, none⟩) (v.files.flatMap fileC)) (hc : v.files.length ≤ c) (k : Nat) (hk : k * 2000 ≤ v.files.length) : Arr w [] (subA g 0 (k * 2000) c 2) ((editP v k).add.flatMap fileC) := by
 have e3 : (v.files.drop (k * 2000)).take (min 2000 (v.files.length - k * 2000)) = (editP v k).add := by
  show _ = (v.files.drop (k * 2000)).take 2000
  rw [← kBf, ← List.take_eq_take_min]
 generalize (editP v k).add = q at e3 ⊢
 generalize k * 2000 = p at hk e3 ⊢
 subst e3
 exact files_part ha hc rfl (by omega)
structure EI where
 k : Nat
 a : Option Addr
 c : Nat
set_option maxRecDepth 4000 in
set_option maxHeartbeats 8000000 in
theorem Sedits_spec {w : World} {a : Option Addr} {ca : Nat} {v : VM} (hv : VersAt w a ca v) (hr : rightE (wholeE v) = true) (ho : OkE (wholeE v)) (hl : v.files.length ≤ 8388608) :
  Cl Tryz.prog f_store_edits [.agg ⟨versC a ca v⟩] w fun r w' => ∃ a' c' L, r = .slice a' (editsB v).length c' ∧ Vec T_string 1 a' (editsB v).length c' ((editsB v).map Str) L ∧ St w [] L w' := by
 have hS := St.start w
 have hwh := fun (w : World) (hv : VersAt w a ca v) => Whole_spec hv (by omega)
 rw [editsB_len]
 unfold versC
 refine en_store_edits rfl ?_
 refine jq ⟨?_⟩
 refine hS.al ?_
 intro b1 w1 _ hS
 (repeat (refine jt ⟨?_⟩; refine hS.st rfl rfl ?_; intro _ hS)); refine jt ⟨?_⟩
 refine Cl.mono (hwh _ ⟨hv.files.keep hS.nil, hv.rng⟩) ?_
 rintro _ w2 ⟨a3, c3, L3, rfl, hv3, hS'⟩
 have hS := hS.callNew hS'
 unfold editC wholeE
 (repeat (refine jt ⟨?_⟩; refine hS.st rfl rfl ?_; intro _ hS)); refine jt ⟨?_⟩
 refine hS.al ?_
 intro b3 w3 _ hS
 (repeat (refine jt ⟨?_⟩; refine hS.st rfl rfl ?_; intro _ hS)); refine jt ⟨?_⟩
 have hst : St w [] ([] ++ ((b3, .cells ⟨[.slice a3 v.files.length c3, .slice none 0 0, .int .i64 v.wal, .int .i64 v.next, .int .i64 v.seq]⟩ T_api_Edit (0, 0)) :: (L3 ++ []))) _ := hS.sub (.cons_cons _ (List.Sublist.append (.refl _) (List.nil_sublist _)))
 clear hS hS'
 have hN1 : 1 ≤ editN v := by unfold editN; omega
 refine SemW.loop (fun z : EI => [(2, .slice none 0 0), (3, ptr b3), (4, .slice z.a z.k z.c), (5, .int .i64 ((z.k * 2000 : Nat) : Int))])
  (fun z w' => z.k ≤ editN v ∧ ∃ Lx, Vec T_string 1 z.a z.k z.c (((editsB v).take z.k).map Str) Lx ∧ St w [] (Lx ++ ((b3, .cells ⟨[.slice a3 v.files.length c3, .slice none 0 0, .int .i64 v.wal, .int .i64 v.next, .int .i64 v.seq]⟩ T_api_Edit (0, 0)) :: (L3 ++ []))) w') (fun z => editN v - z.k) ⟨0, none, 0⟩
  ⟨rfl, rfl, rfl, rfl, trivial⟩ ⟨kAg _, [], Vec.nil, hst⟩ ?_
 clear hst
 rintro ⟨k, a4, c4⟩ w4 ⟨hk, Lx, hV, hS⟩
 simp only at hk hV hS ⊢
 have hNe : editN v = max 1 ((v.files.length + 1999) / 2000) := rfl
 by_cases hkl : k < editN v
 ·have hkn : k * 2000 ≤ v.files.length := by omega
  have hsucc := editsB_succ v k hkl
  have hrp := right_part hr k
  have hop := ok_part ho k
  have hpl : (editP v k).add.length = min 2000 (v.files.length - k * 2000) := by
   show ((v.files.drop (k * 2000)).take 2000).length = _
   rw [kAo, kBf]
  have hcond : k = 0 ∨ k * 2000 < v.files.length := by omega
  have e1 : (if (v.files.length : Int) < ((k * 2000 : Nat) : Int) then (v.files.length : Int) else ((k * 2000 : Nat) : Int)).toNat = k * 2000 := by rw [if_neg (by omega)]; exact Int.toNat_natCast _
  have e2 : (if (v.files.length : Int) < ((k * 2000 : Nat) : Int) + 2000 then (v.files.length : Int) else ((k * 2000 : Nat) : Int) + 2000).toNat - k * 2000 = (editP v k).add.length := by rw [hpl]; split <;> omega
  rcases hv3.inv with ⟨rfl, hn0, rfl, -, rfl⟩ | ⟨g3, l3, rfl, -, -, hc3, rfl⟩
  ·have hk0 : k = 0 := by omega
   (repeat (refine jt ⟨?_⟩; refine hS.st rfl rfl ?_; intro _ hS)); refine jt ⟨?_⟩
   refine hS.al ?_
   intro b6 w5 _ hS
   (repeat (refine jt ⟨?_⟩; refine hS.st rfl rfl ?_; intro _ hS)); refine jt ⟨?_⟩
   rw [e1] at hS ⊢
   rw [e2] at hS ⊢
   have hea : ∀ (w2 : World), EditAt w2 none none (0 - k * 2000) 0 (editP v k) := fun w2 => ⟨⟨by
    have : (editP v k).add = [] := kCu (by omega)
    rw [this]; exact Arr.nil _ _ _, by omega⟩, Arr.nil _ _ _, kAd _, by show (editP v k).add.length + 0 ≤ _; omega, hv.rng⟩
   (repeat (refine jt ⟨?_⟩; refine hS.st rfl rfl ?_; intro _ hS)); refine jt ⟨?_⟩
   refine Cl.mono (Encode_spec (hea _) hop) ?_
   rintro _ w6 ⟨rfl, hS'⟩
   have hS := hS.call0 hS'
   unfold encV
   rw [if_pos hrp]
   generalize editB (editP v k) = t at hsucc ⊢
   (repeat (refine jt ⟨?_⟩; refine hS.st rfl rfl ?_; intro _ hS)); refine jt ⟨?_⟩
   refine hS.al ?_
   intro b45 w7 _ hS
   (repeat (refine jt ⟨?_⟩; refine hS.st rfl rfl ?_; intro _ hS)); refine jt ⟨?_⟩
   refine St.app (sz := 1) (m := 1) tblOk rfl rfl rfl rfl hS hV (news := [Str t]) rfl (by have := hS.arr (b := b45) (T' := []) (by simp); exact this) rfl (by show (_ + _) * 16 ≤ _; omega) (by omega) ?_
   intro a5 c5 L5 w8 hV5 hS
   (repeat (refine jt ⟨?_⟩; refine hS.st rfl rfl ?_; intro _ hS)); refine jt ⟨?_⟩
   have hS := hS.sub ((kAb _ _).trans (kAb _ _))
   refine ⟨⟨k + 1, a5, c5⟩, ⟨rfl, rfl, rfl, by rw [show (((k + 1) * 2000 : Nat) : Int) = ((k * 2000 : Nat) : Int) + 2000 by omega]; rfl, trivial⟩, ⟨hkl, L5, by rw [hsucc, kAi]; exact hV5, hS⟩, by simp only; omega⟩
  ·by_cases hk0 : k = 0
   ·(repeat (refine jt ⟨?_⟩; refine hS.st rfl rfl ?_; intro _ hS)); refine jt ⟨?_⟩
    refine hS.al ?_
    intro b6 w5 _ hS
    (repeat (refine jt ⟨?_⟩; refine hS.st rfl rfl ?_; intro _ hS)); refine jt ⟨?_⟩
    rw [e1] at hS ⊢
    rw [e2] at hS ⊢
    have hcap : (editP v k).add.length ≤ c3 - k * 2000 := by omega
    have hea : EditAt _ (subA g3 0 (k * 2000) c3 2) none (c3 - k * 2000) 0 (editP v k) := ⟨⟨edit_part (hv3.arr hS (T' := []) (by simp)) hc3 k hkn, hcap⟩, Arr.nil _ _ _, kAd _, by show (editP v k).add.length + 0 ≤ _; omega, hv.rng⟩
    (repeat (refine jt ⟨?_⟩; refine hS.st rfl rfl ?_; intro _ hS)); refine jt ⟨?_⟩
    refine Cl.mono (Encode_spec hea hop) ?_
    rintro _ w6 ⟨rfl, hS'⟩
    have hS := hS.call0 hS'
    unfold encV
    rw [if_pos hrp]
    generalize editB (editP v k) = t at hsucc ⊢
    (repeat (refine jt ⟨?_⟩; refine hS.st rfl rfl ?_; intro _ hS)); refine jt ⟨?_⟩
    refine hS.al ?_
    intro b45 w7 _ hS
    (repeat (refine jt ⟨?_⟩; refine hS.st rfl rfl ?_; intro _ hS)); refine jt ⟨?_⟩
    refine St.app (sz := 1) (m := 1) tblOk rfl rfl rfl rfl hS hV (news := [Str t]) rfl (by have := hS.arr (b := b45) (T' := []) (by simp); exact this) rfl (by show (_ + _) * 16 ≤ _; omega) (by omega) ?_
    intro a5 c5 L5 w8 hV5 hS
    (repeat (refine jt ⟨?_⟩; refine hS.st rfl rfl ?_; intro _ hS)); refine jt ⟨?_⟩
    have hS := hS.sub ((kAb _ _).trans (kAb _ _))
    refine ⟨⟨k + 1, a5, c5⟩, ⟨rfl, rfl, rfl, by rw [show (((k + 1) * 2000 : Nat) : Int) = ((k * 2000 : Nat) : Int) + 2000 by omega]; rfl, trivial⟩, ⟨hkl, L5, by rw [hsucc, kAi]; exact hV5, hS⟩, by simp only; omega⟩
   ·have hkn2 : k * 2000 < v.files.length := by omega
    (repeat (refine jt ⟨?_⟩; refine hS.st rfl rfl ?_; intro _ hS)); refine jt ⟨?_⟩
    refine hS.al ?_
    intro b6 w5 _ hS
    (repeat (refine jt ⟨?_⟩; refine hS.st rfl rfl ?_; intro _ hS)); refine jt ⟨?_⟩
    rw [e1] at hS ⊢
    rw [e2] at hS ⊢
    have hcap : (editP v k).add.length ≤ c3 - k * 2000 := by omega
    have hea : EditAt _ (subA g3 0 (k * 2000) c3 2) none (c3 - k * 2000) 0 (editP v k) := ⟨⟨edit_part (hv3.arr hS (T' := []) (by simp)) hc3 k hkn, hcap⟩, Arr.nil _ _ _, kAd _, by show (editP v k).add.length + 0 ≤ _; omega, hv.rng⟩
    (repeat (refine jt ⟨?_⟩; refine hS.st rfl rfl ?_; intro _ hS)); refine jt ⟨?_⟩
    refine Cl.mono (Encode_spec hea hop) ?_
    rintro _ w6 ⟨rfl, hS'⟩
    have hS := hS.call0 hS'
    unfold encV
    rw [if_pos hrp]
    generalize editB (editP v k) = t at hsucc ⊢
    (repeat (refine jt ⟨?_⟩; refine hS.st rfl rfl ?_; intro _ hS)); refine jt ⟨?_⟩
    refine hS.al ?_
    intro b45 w7 _ hS
    (repeat (refine jt ⟨?_⟩; refine hS.st rfl rfl ?_; intro _ hS)); refine jt ⟨?_⟩
    refine St.app (sz := 1) (m := 1) tblOk rfl rfl rfl rfl hS hV (news := [Str t]) rfl (by have := hS.arr (b := b45) (T' := []) (by simp); exact this) rfl (by show (_ + _) * 16 ≤ _; omega) (by omega) ?_
    intro a5 c5 L5 w8 hV5 hS
    (repeat (refine jt ⟨?_⟩; refine hS.st rfl rfl ?_; intro _ hS)); refine jt ⟨?_⟩
    have hS := hS.sub ((kAb _ _).trans (kAb _ _))
    refine ⟨⟨k + 1, a5, c5⟩, ⟨rfl, rfl, rfl, by rw [show (((k + 1) * 2000 : Nat) : Int) = ((k * 2000 : Nat) : Int) + 2000 by omega]; rfl, trivial⟩, ⟨hkl, L5, by rw [hsucc, kAi]; exact hV5, hS⟩, by simp only; omega⟩
 ·obtain rfl : k = editN v := by omega
  rw [kDi (by rw [editsB_len]; exact kAd _)] at hV
  have hnk : ¬ editN v * 2000 < v.files.length := by omega
  have hn0 : ¬ editN v = 0 := by omega
  (repeat (refine jt ⟨?_⟩; refine hS.st rfl rfl ?_; intro _ hS)); refine jt ⟨?_⟩
  exact ⟨a4, c4, Lx, rfl, hV, hS.sub (kBk _ _)⟩
theorem place4 {α : Type} (x p q r : α) (A B C : List α) : (x :: p :: q :: r :: (A ++ (B ++ C))).Perm (p :: q :: r :: (A ++ (B ++ ([x] ++ C)))) := by
 refine (List.Perm.swap _ _ _).trans (.cons _ ((List.Perm.swap _ _ _).trans (.cons _ ((List.Perm.swap _ _ _).trans (.cons _ ?_)))))
 refine (kCq [x] A _).trans (List.Perm.append_left _ ?_)
 exact kCq [x] B _
theorem _root_.Go.Eng.St.disj {w0 w : World} {T : List Nat} {A H L : Heap} {F : Heap → Heap} (hS : St w0 T (A ++ H) w) [hc : Chunk H L F] : ∀ b ∈ keys A, b ∉ keys L := by
 intro b hb hb2
 obtain ⟨X, Y, h1, -⟩ := hc.at_
 have := hS.nd
 rw [h1] at this
 unfold keys at this hb hb2
 rw [kAi, kAi, kAi, kBw] at this
 exact this.2.2 b hb b (kBp _ (kBm _ hb2)) rfl
theorem ldAll {C : World → Prop} {a : Addr} {v : Value} (h : ∀ w', C w' → w'.cell? a = some v) {K : Value → Prop} (hk : K v) : LdC C a K := ⟨⟨v, h, hk⟩⟩
set_option maxRecDepth 4000 in
set_option maxHeartbeats 16000000 in
theorem Srelist_spec {w : World} {sb f A : Nat} {s : StM} {m : FSm} {L : Heap} (hO : StO sb f s m L) (hh : Holds L w) (hG : Glob w (keys L)) {a : Option Addr} {ca : Nat} {v : VM} (hva : Arr w (keys L) a (v.files.flatMap fileC)) (hvc : v.files.length ≤ ca) (hvr : -9223372036854775808 ≤ v.wal ∧ v.wal ≤ 9223372036854775807 ∧ -9223372036854775808 ≤ v.seq ∧ v.seq ≤ 9223372036854775807)
  (hr : rightE (wholeE { v with next := v.next + 1 }) = true) (ho : OkE (wholeE { v with next := v.next + 1 })) (hl : v.files.length ≤ 8388608) (hsum : sumLen (editsB { v with next := v.next + 1 }) + 8 * (editsB { v with next := v.next + 1 }).length ≤ 1099511627776)
  (hn : 0 ≤ v.next ∧ v.next ≤ 2305843009213693952) (hB : FB A m) (hA : A + 10 ≤ 4611686018427387904) :
  Cl Tryz.prog f_store_Store_relist [ptr sb, .agg ⟨versC a ca v⟩] w fun r w' => r = .tuple ⟨[.agg ⟨versC a ca (relistM s m v).2.2.1⟩, .int .i64 (relistM s m v).1]⟩ ∧ ∃ L', StO sb f (relistM s m v).2.1 (relistM s m v).2.2.2 L' ∧ St w (keys L) L' w' := by
 have hS := St.enter hh
 have hed := fun (w : World) (hv : VersAt w a ca { v with next := v.next + 1 }) => Sedits_spec hv hr ho hl
 have hit := itoa_short (n := v.next) ⟨by omega, by omega⟩
 generalize hT : keys L = T0 at hS hG hva ⊢
 generalize hR : relistM s m v = R
 have hR1 : R = _ := hR.symm
 unfold relistM at hR1
 simp only at hR1
 unfold versC
 refine en_store_Store_relist rfl ?_
 (repeat (refine jt ⟨?_⟩; refine hS.st rfl rfl ?_; intro _ hS)); refine jt ⟨?_⟩
 refine hS.al ?_
 intro b3 w1 _ hS
 (repeat (refine jt ⟨?_⟩; refine hS.st rfl rfl ?_; intro _ hS)); refine jt ⟨?_⟩
 refine hS.al ?_
 intro b4 w2 _ hS
 (repeat (refine jt ⟨?_⟩; refine hS.st rfl rfl ?_; intro _ hS)); refine jt ⟨?_⟩
 refine SemW.draw tblOk mixed (fun w' => St w T0 _ w') [8, 9] [0, 1, 2, 3, 4, 6, 5, 7, 8, 9] (by kernel_rfl) hS.drew ?_
 have hS := hS.drew
 refine jr ⟨?_⟩
 refine ldAll (fun w' h => hO.fC (h.part (L := L))) ?_
 refine jr ⟨?_⟩
 refine Cl.mono (List_spec (n := v.next) ⟨by omega, by omega⟩ (hG.keep hS).tab) ?_
 rintro _ w3 ⟨rfl, hS'⟩
 have hS := hS.call0 hS'
 refine Chk.mk hS ?_
 refine jr ⟨?_⟩
 refine Cl.mono (hed _ ⟨⟨(hS.arrOld hva).sub (by simp), hvc⟩, by simp only; omega⟩) ?_
 rintro _ w4 ⟨ae, ce, Le, rfl, hve, hS'⟩
 have hS := hS.callNew hS'
 refine Chk.mk (hS.sub (kAj _ _)) ?_
 refine jr ⟨?_⟩
 refine Cl.mono (hO.rewrite (hS.part (L := L)) (lName v.next) (hve.arr hS (T' := keys L) hS.disj) hsum hB (by omega)) ?_
 rintro _ w5 ⟨rfl, L1, hO1, hS'⟩
 have hS := (hS.call (L := L) hS').sub (kAj _ _)
 have hB1 := hB.rewrite (lName v.next) (editsB { v with next := v.next + 1 }) (by rw [sealB_len]; exact hsum)
 generalize rewriteM m (lName v.next) (editsB { v with next := v.next + 1 }) = rm at hO1 hB1 hR1 ⊢
 obtain ⟨e1, m1⟩ := rm
 simp only at hO1 hB1 hR1 ⊢
 by_cases h1 : e1 = 0
 ·subst h1
  rw [if_neg (by simp)] at hR1
  (repeat (refine jt ⟨?_⟩; refine hS.st rfl rfl ?_; intro _ hS)); refine jt ⟨?_⟩
  refine Cl.mono (List_spec (n := v.next) ⟨by omega, by omega⟩ (hG.keep hS).tab) ?_
  rintro _ w6 ⟨rfl, hS'⟩
  have hS := hS.call0 hS'
  (repeat (refine jt ⟨?_⟩; refine hS.st rfl rfl ?_; intro _ hS)); refine jt ⟨?_⟩
  refine Cl.mono (hO1.file (hS.part (L := L1)) newN (lName v.next) (by unfold lName; rw [kAe]; omega) hB1 (by omega)) ?_
  rintro _ w7 ⟨rfl, L2, hO2, hS'⟩
  have hS := hS.call (L := L1) hS'
  have hB2 := hB1.file newN (lName v.next) (by unfold lName; rw [kAe]; omega)
  generalize fileM m1 newN (lName v.next) = rm at hO2 hB2 hR1 ⊢
  obtain ⟨e2, m2⟩ := rm
  simp only at hO2 hB2 hR1 ⊢
  by_cases h2 : e2 = 0
  ·subst h2
   rw [if_neg (by simp)] at hR1
   (repeat (refine jt ⟨?_⟩; refine hS.st rfl rfl ?_; intro _ hS)); refine jt ⟨?_⟩
   refine ldAt (hO2.fC (hS.part (L := L2))) ?_
   (repeat (refine jt ⟨?_⟩; refine hS.st rfl rfl ?_; intro _ hS)); refine jt ⟨?_⟩
   refine Cl.mono (hO2.rename (hS.part (L := L2)) newN curN hB2 (by omega)) ?_
   rintro _ w8 ⟨rfl, L3, hO3, hS'⟩
   have hS := hS.call (L := L2) hS'
   have hB3 := hB2.ren newN curN
   generalize renameM m2 newN curN = rm at hO3 hB3 hR1 ⊢
   obtain ⟨e3, m3⟩ := rm
   simp only at hO3 hB3 hR1 ⊢
   by_cases h3 : e3 = 0
   ·subst h3
    rw [if_neg (by simp)] at hR1
    (repeat (refine jt ⟨?_⟩; refine hS.st rfl rfl ?_; intro _ hS)); refine jt ⟨?_⟩
    refine SemW.draw tblOk mixed (fun w' => St w T0 _ w') [6, 7, 8, 9, 10, 11, 12, 13] [0, 1, 2, 3, 4, 5, 6, 7, 8, 9, 10, 11, 12, 13] (by kernel_rfl) hS.drew ?_
    have hS := hS.drew
    refine jr ⟨?_⟩
    refine ldAll (fun w' h => hO3.fC (h.part (L := L3))) ?_
    refine jr ⟨?_⟩
    refine Cl.mono (List_spec (n := v.next) ⟨by omega, by omega⟩ (hG.keep hS).tab) ?_
    rintro _ w9 ⟨rfl, hS'⟩
    have hS := hS.call0 hS'
    refine Chk.mk hS ?_
    refine jr ⟨?_⟩
    by_cases h4 : openE m3 (lName v.next) = 0
    ·rw [h4, if_neg (by simp)] at hR1
     subst hR1
     refine Cl.mono (hO3.wopen (hS.part (L := L3)) (lName v.next) h4 hB3) ?_
     rintro _ w10 ⟨bl, ax, cx, Lx, rfl, hvx, hlg, hS'⟩
     have hS := (hS.call (L := L3) hS').sub (.cons_cons _ (.cons_cons _ (kAj _ _)))
     obtain ⟨sq, es, c, hsq, ha, hc, Lh, hvh, a3, c3, La, hv3, lv, Ll, hl3, gv, Lg, hg, mb, Lm, hm, tm, et, ct, ks, ht, Lt, hts, LF, hF⟩ := hO3
     (repeat (refine jt ⟨?_⟩; refine hS.st rfl rfl ?_; intro _ hS)); refine jt ⟨?_⟩
     refine ⟨rfl, _, StO.mk (s := { s with list := some (openL m3 (lName v.next)) }) sq es c hsq ha hc Lh hvh a3 c3 La hv3 (ptr bl) _ hlg gv Lg hg mb Lm hm tm et ct ks ht Lt hts LF hF, ?_⟩
     exact St.perm ((St.tl2 hS).sub (.cons_cons _ (.cons_cons _ (.cons_cons _ (.cons_cons _ ((List.Sublist.refl Lh).append ((List.Sublist.refl La).append (kAj Ll _)))))))) (place4 _ _ _ _ Lh La _)
    ·rw [if_pos h4] at hR1
     subst hR1
     refine Cl.mono (hO3.wopenE (hS.part (L := L3)) (lName v.next) h4) ?_
     rintro _ w10 ⟨rfl, hS'⟩
     have hS := hS.call (L := L3) hS'
     (repeat (refine jt ⟨?_⟩; refine hS.st rfl rfl ?_; intro _ hS)); refine jt ⟨?_⟩
     exact ⟨rfl, _, hO3, St.tl2 hS⟩
   ·rw [if_pos h3] at hR1
    subst hR1
    (repeat (refine jt ⟨?_⟩; refine hS.st rfl rfl ?_; intro _ hS)); refine jt ⟨?_⟩
    exact ⟨rfl, _, hO3, St.tl2 hS⟩
  ·rw [if_pos h2] at hR1
   subst hR1
   (repeat (refine jt ⟨?_⟩; refine hS.st rfl rfl ?_; intro _ hS)); refine jt ⟨?_⟩
   exact ⟨rfl, _, hO2, St.tl2 hS⟩
 ·rw [if_pos h1] at hR1
  subst hR1
  (repeat (refine jt ⟨?_⟩; refine hS.st rfl rfl ?_; intro _ hS)); refine jt ⟨?_⟩
  exact ⟨rfl, _, hO1, St.tl2 hS⟩
end Go.Proofs.YtkgibdhpijdbfaaGreatDoor
namespace Go.Proofs.YtkgibdhpijdbfaaGreatDoor
open Go Go.Eng Go.Proofs
theorem _root_.Go.Eng.St.notin {w0 w : World} {T : List Nat} {H L : Heap} {F : Heap → Heap} (hS : St w0 T H w) [hc : Chunk H L F] {b : Nat} (hb : b < w0.heap.size) (hT : b ∉ T) : b ∉ keys L := by
 intro h
 obtain ⟨A, B, h1, _⟩ := hc.at_
 unfold keys at h
 obtain ⟨p, hp, rfl⟩ := kAm.1 h
 exact hT (hS.fresh p (by rw [h1]; simp [hp]) hb)
theorem TabsO.snoc {ks : List (Int × Nat)} {ts : List (Int × List EntM)} {M : Heap} (h : TabsO ks ts M) {n : Int} {tb : Nat} {l : List EntM} {L : Heap} (ht : TabO tb l L) : TabsO (ks ++ [(n, tb)]) (ts ++ [(n, l)]) (M ++ L) := by
 induction h with
 |nil => have := TabsO.cons (n := n) ht .nil; rwa [kAk] at this
 |cons h' _ ih => rw [kAc]; exact .cons h' ih
theorem numsFrom_snoc {α : Type} : ∀ (cs : List α) (n : Int) (c : α), numsFrom n (cs ++ [c]) = numsFrom n cs ++ [(n + cs.length, c)]
 |[], n, c => by simp [numsFrom]
 |d :: cs, n, c => by
  rw [kBe, numsFrom, numsFrom_snoc cs (n + 1) c, numsFrom, kBe]
  rw [show n + 1 + (cs.length : Int) = n + ((d :: cs).length : Nat) by rw [kAe]; omega]
theorem numsFrom_keys {α : Type} : ∀ (cs : List α) (n : Int) (k : Int), k ∈ (numsFrom n cs).map (·.1) ↔ n ≤ k ∧ k < n + cs.length
 |[], n, k => by simp [numsFrom]
 |c :: cs, n, k => by
  rw [numsFrom, kAh, kAf, numsFrom_keys cs (n + 1) k, kAe]; omega
theorem layM_step {m : FSm} {n : Int} {cs : List (List EntM)} {i : Nat} {mi : FSm} (h : layM m n cs = layM mi (n + i) (cs.drop i)) (hi : i < cs.length) :
  layM m n cs = if (fileM mi (tName (n + i)) (tableB cs[i])).1 ≠ 0 then fileM mi (tName (n + i)) (tableB cs[i]) else layM (fileM mi (tName (n + i)) (tableB cs[i])).2 (n + (i + 1 : Nat)) (cs.drop (i + 1)) := by
 rw [h, kBs hi]
 show (if _ then _ else _) = _
 rw [show n + (i : Int) + 1 = n + ((i + 1 : Nat) : Int) by omega]
set_option maxRecDepth 8000 in
set_option maxHeartbeats 8000000 in
theorem Slay_spec {w : World} {sb f A : Nat} {m : FSm} {L : Heap} (hF : FSo f m L) (hh : Holds L w) (hc2 : w.cell? ⟨sb, 2, none⟩ = some (ptr f)) (hsb : sb ∉ keys L) (hG : Glob w (keys L)) (lev n : Int) (hn : 0 ≤ n ∧ n ≤ 2305843009213693952)
  {a : Option Addr} {c : Nat} {es : List EntM} (ha : Arr w (keys L) a (es.flatMap entC)) (hc : es.length ≤ c) (hes : es.length ≤ 8388608) (hp : ∀ p ∈ pieces 64 es, TabF p) (hB : FB A m) (hA : A + 3 * es.length ≤ 4611686018427387904) :
  Cl Tryz.prog f_store_Store_lay [ptr sb, .int .i64 lev, .int .i64 n, .slice a es.length c] w fun v w' => ((layM m n (pieces 64 es)).1 ≠ 0 ∧ v = .tuple ⟨[.slice none 0 0, .map none, .int .i64 (layM m n (pieces 64 es)).1]⟩ ∧ ∃ L', FSo f (layM m n (pieces 64 es)).2 L' ∧ St w (keys L) L' w') ∨
   ((layM m n (pieces 64 es)).1 = 0 ∧ ∃ a2 c2 Lf tm et ct ks Lt L', v = .tuple ⟨[.slice a2 (pieces 64 es).length c2, .map (some tm), .int .i64 0]⟩ ∧ Vec T_api_File 2 a2 (pieces 64 es).length c2 ((filesOf lev (numsFrom n (pieces 64 es))).flatMap fileC) Lf ∧
    MapC intV (fun b : Nat => ptr b) et ct ks ∧ TabsO ks (numsFrom n (pieces 64 es)) Lt ∧ FSo f (layM m n (pieces 64 es)).2 L' ∧ St w (keys L) ((tm, .map et ct) :: (Lf ++ (Lt ++ L'))) w') := by
 have hS := St.enter hh
 have hsz : sb < w.heap.size := World.block_lt_of_cell? w _ hc2
 generalize hT : keys L = T0 at hS hsb hG ha ⊢
 obtain ⟨P, hP⟩ : ∃ P, pieces 64 es = P := ⟨_, rfl⟩
 have hpl : P.length = (es.length + 64 - 1) / 64 := by rw [← hP]; exact pieces_len 64 es
 have hPg : ∀ i (hi : i < P.length), i * 64 < es.length ∧ P[i] = (es.drop (i * 64)).take 64 := by
  subst hP
  intro i hi
  exact ⟨pieces_lt (by omega) hi, pieces_get hi⟩
 rw [hP] at hp ⊢
 refine enX_store_Store_lay rfl ?_
 refine SemX.seq ?_
 (repeat (refine jt ⟨?_⟩; refine hS.st rfl rfl ?_; intro _ hS)); refine jt ⟨?_⟩
 refine hS.al ?_
 intro b4 w1 _ hS
 (repeat (refine jt ⟨?_⟩; refine hS.st rfl rfl ?_; intro _ hS)); refine jt ⟨?_⟩
 refine hS.al ?_
 intro b5 w2 _ hS
 (repeat (refine jt ⟨?_⟩; refine hS.st rfl rfl ?_; intro _ hS)); refine jt ⟨?_⟩
 refine hS.al ?_
 intro b6 w3 _ hS
 (repeat (refine jt ⟨?_⟩; refine hS.st rfl rfl ?_; intro _ hS)); refine jt ⟨?_⟩
 refine hS.al ?_
 intro b8 w4 _ hS
 (repeat (refine jt ⟨?_⟩; refine hS.st rfl rfl ?_; intro _ hS)); refine jt ⟨?_⟩
 refine hS.al ?_
 intro b9 w5 _ hS
 (repeat (refine jt ⟨?_⟩; refine hS.st rfl rfl ?_; intro _ hS)); refine jt ⟨?_⟩
 refine hS.al ?_
 intro b10 w6 _ hS
 (repeat (refine jt ⟨?_⟩; refine hS.st rfl rfl ?_; intro _ hS)); refine jt ⟨?_⟩
 refine SemX.seq ?_
 (repeat (refine jt ⟨?_⟩; refine hS.st rfl rfl ?_; intro _ hS)); refine jt ⟨?_⟩
 refine hS.al ?_
 intro b11 w7 _ hS
 (repeat (refine jt ⟨?_⟩; refine hS.st rfl rfl ?_; intro _ hS)); refine jt ⟨?_⟩
 refine SemX.seq ?_
 (repeat (refine jt ⟨?_⟩; refine hS.st rfl rfl ?_; intro _ hS)); refine jt ⟨?_⟩
 refine hS.al ?_
 intro mm w8 _ hS
 (repeat (refine jt ⟨?_⟩; refine hS.st rfl rfl ?_; intro _ hS)); refine jt ⟨?_⟩
 refine hS.al ?_
 intro b12 w9 _ hS
 (repeat (refine jt ⟨?_⟩; refine hS.st rfl rfl ?_; intro _ hS)); refine jt ⟨?_⟩
 refine SemX.rangeB rfl ?_
 (repeat (refine jt ⟨?_⟩; refine hS.st rfl rfl ?_; intro _ hS)); refine jt ⟨?_⟩
 refine (Chunk_spec (m := 64) (by decide)).mono ?_
 rintro _ w10 ⟨b2, b3, rfl, hS'⟩
 have hS := hS.callNew hS'
 (repeat (refine jt ⟨?_⟩; refine hS.st rfl rfl ?_; intro _ hS)); refine jt ⟨?_⟩
 refine ⟨_, [ptr b2, ptr b3], call_slices_Chunk_api_Entry_api_Entry_1, rfl, ?_⟩
 intro lo hy
 have hS := hS.rng (.deferred (some [])) (lo .ready none)
 generalize hlp : w10.heap.size + 1 = lp at hS hy ⊢
 generalize hD : w10.heap.size = D at hS ⊢
 generalize (w10.alloc (.deferred (some []))).alloc (lo .ready none) = w11 at hS ⊢
 have hst0 : St w T0 ((lp, lo .ready none) :: (D, .deferred (some [])) :: (b3, .cells ⟨[.int .i64 64]⟩ T_int (0, 0)) :: (b2, .cells ⟨[.slice a es.length c]⟩ T_Sl_api_Entry (0, 0)) :: (b12, .cells ⟨[.map (some mm)]⟩ T_map_int_Ptr_table_Table (0, 0)) :: (mm, .map #[] 0) :: (b11, .cells ⟨[.slice none 0 0]⟩ T_Sl_api_File (0, 0)) ::
   (b10, .cells ⟨[.int .i64 0]⟩ T_api_Errno (0, 0)) :: (b9, .cells ⟨[.map none]⟩ T_map_int_Ptr_table_Table (0, 0)) :: (b8, .cells ⟨[.slice none 0 0]⟩ T_Sl_api_File (0, 0)) :: (b6, .cells ⟨[.int .i64 (n + (0 : Nat))]⟩ T_int (0, 0)) :: (b5, .cells ⟨[.int .i64 lev]⟩ T_int (0, 0)) :: (b4, .cells ⟨[ptr sb]⟩ T_Ptr_store_Store (0, 0)) :: ([] ++ ([] ++ L))) w11 := by rw [show n + ((0 : Nat) : Int) = n by omega]; exact hS
 clear hS hS'
 refine Cl.mono (ChunkIt_spec (g := (a.getD ⟨0, 0, none⟩).block) (o := (a.getD ⟨0, 0, none⟩).off) (m := 64) (a := a) (by decide) (by omega) hc ?_
  (fun i w' => i ≤ P.length ∧ ∃ a11 c11 Lf et ct ks Lt mi Li, Vec T_api_File 2 a11 i c11 ((filesOf lev (numsFrom n (P.take i))).flatMap fileC) Lf ∧ MapC intV (fun b : Nat => ptr b) et ct ks ∧ TabsO ks (numsFrom n (P.take i)) Lt ∧ FSo f mi Li ∧ FB (A + 3 * i) mi ∧ layM m n P = layM mi (n + i) (P.drop i) ∧
   St w T0 ((lp, lo .ready none) :: (D, .deferred (some [])) :: (b3, .cells ⟨[.int .i64 64]⟩ T_int (0, 0)) :: (b2, .cells ⟨[.slice a es.length c]⟩ T_Sl_api_Entry (0, 0)) :: (b12, .cells ⟨[.map (some mm)]⟩ T_map_int_Ptr_table_Table (0, 0)) :: (mm, .map et ct) :: (b11, .cells ⟨[.slice a11 i c11]⟩ T_Sl_api_File (0, 0)) ::
   (b10, .cells ⟨[.int .i64 0]⟩ T_api_Errno (0, 0)) :: (b9, .cells ⟨[.map none]⟩ T_map_int_Ptr_table_Table (0, 0)) :: (b8, .cells ⟨[.slice none 0 0]⟩ T_Sl_api_File (0, 0)) :: (b6, .cells ⟨[.int .i64 (n + (i : Nat))]⟩ T_int (0, 0)) :: (b5, .cells ⟨[.int .i64 lev]⟩ T_int (0, 0)) :: (b4, .cells ⟨[ptr sb]⟩ T_Ptr_store_Store (0, 0)) :: (Lf ++ (Lt ++ Li))) w')
  (fun w' => (layM m n P).1 ≠ 0 ∧ ∃ et ct a11 i c11 z R Li, FSo f (layM m n P).2 Li ∧ St w T0 ((lp, lo .done (some .ret)) :: (D, .deferred (some [])) :: (b3, .cells ⟨[.int .i64 64]⟩ T_int (0, 0)) :: (b2, .cells ⟨[.slice a es.length c]⟩ T_Sl_api_Entry (0, 0)) :: (b12, .cells ⟨[.map (some mm)]⟩ T_map_int_Ptr_table_Table (0, 0)) :: (mm, .map et ct) :: (b11, .cells ⟨[.slice a11 i c11]⟩ T_Sl_api_File (0, 0)) ::
   (b10, .cells ⟨[.int .i64 (layM m n P).1]⟩ T_api_Errno (0, 0)) :: (b9, .cells ⟨[.map none]⟩ T_map_int_Ptr_table_Table (0, 0)) :: (b8, .cells ⟨[.slice none 0 0]⟩ T_Sl_api_File (0, 0)) :: (b6, .cells ⟨[.int .i64 (z)]⟩ T_int (0, 0)) :: (b5, .cells ⟨[.int .i64 lev]⟩ T_int (0, 0)) :: (b4, .cells ⟨[ptr sb]⟩ T_Ptr_store_Store (0, 0)) :: (R ++ Li)) w')
  ?_ ?_ ?_ ?_ ⟨kAg _, none, 0, [], #[], 0, [], [], m, L, Vec.nil, ⟨rfl, by simp [Stamp]⟩, .nil, hF, hB.mono (by omega), by rw [List.drop_zero]; simp, hst0⟩) ?_
 ·intro hl0
  obtain ⟨g, off, rfl, -⟩ := ent_at ha hl0
  rfl
 ·rintro i w' ⟨-, a11, c11, Lf, et, ct, ks, Lt, mi, Li, -, -, -, -, -, -, hS⟩
  have := hS.mem (b := b2)
  simp [World.cell?, this]
 ·rintro i w' ⟨-, a11, c11, Lf, et, ct, ks, Lt, mi, Li, -, -, -, -, -, -, hS⟩
  have := hS.mem (b := b3)
  simp [World.cell?, this]
 ·rintro i w' ⟨h1, a11, c11, Lf, et, ct, ks, Lt, mi, Li, h2, h3, h4, h5, h6, h7, hS⟩
  exact ⟨h1, a11, c11, Lf, et, ct, ks, Lt, mi, Li, h2, h3, h4, h5, h6, h7, hS.drew⟩
 ·rintro i w' hi ⟨hile, a11, c11, Lf, et, ct, ks, Lt, mi, Li, hV, hM, hTb, hFi, hBi, hlay, hS⟩ K hK hKs
  refine hy _ w' K (hS.mem (b := lp)) ?_
  repeat (first | refine SemM.run tblOk ?_ | ((first | refine jA ?_ ?_ | refine jB ?_ ?_ | refine jC ?_ ?_ | refine jD ?_ ?_); omega) | refine jE rfl ?_ | refine jF (by first | omega | exact ptr_ok tblOk rfl rfl | decide) ?_ | (refine jG ?_; first | with_reducible (first | apply jH | apply jI | apply jJ | apply jK | apply jL) | refine jM (by omega) ?_ | refine jN (by omega) ?_ | with_reducible refine jM rfl ?_ | refine jM (by first | assumption | decide) ?_ | refine jN (by first | assumption | decide) ?_) | refine jO (fun _ => by kernel_rfl) ?_)
  refine ⟨hS.mem (b := lp), ?_⟩
  have hS := hS.put (b := lp) (lo .busy none)
  generalize w'.putObj lp (lo .busy none) = w12 at hS ⊢
  have hS := hS
  obtain ⟨g, off, rfl, -⟩ := ent_at ha (show 0 < es.length by omega)
  have hiP : i < P.length := by omega
  obtain ⟨-, hPi⟩ := hPg i hiP
  have hpt : TabF P[i] := hp _ (kAx hiP)
  have hstep := layM_step hlay hiP
  have hsucc : P.take (i + 1) = P.take i ++ [P[i]] := kAn hiP
  have hmn : min 64 (es.length - i * 64) = P[i].length := by rw [hPi, kAo, kBf]
  have hpa : ∀ {w2 : World} {H : Heap}, St w T0 H w2 → Arr w2 [] (some ⟨g, off + i * 64 * 4, none⟩) (P[i].flatMap entC) := by
   intro w2 H h
   have h1 := part_arr (h.arrOld ha) hc (p := i * 64) (n := min 64 (es.length - i * 64)) (by omega)
   unfold subA at h1
   rw [if_neg (by omega)] at h1
   have e : (es.drop (i * 64)).take (min 64 (es.length - i * 64)) = P[i] := by
    rw [hPi, hmn, hPi, kAo, ← List.take_eq_take_min]
   rw [e] at h1
   exact h1.sub (by simp)
  rw [hmn]
  generalize P[i] = p at hpt hstep hsucc hpa
  repeat (first | refine SemM.run tblOk ?_ | ((first | refine jA ?_ ?_ | refine jB ?_ ?_ | refine jC ?_ ?_ | refine jD ?_ ?_); omega) | refine jE rfl ?_ | refine jF (by first | omega | exact ptr_ok tblOk rfl rfl | decide) ?_ | (refine jG ?_; first | with_reducible (first | apply jH | apply jI | apply jJ | apply jK | apply jL) | refine jM (by omega) ?_ | refine jN (by omega) ?_ | with_reducible refine jM rfl ?_ | refine jM (by first | assumption | decide) ?_ | refine jN (by first | assumption | decide) ?_) | refine jO (fun _ => by kernel_rfl) ?_)
  refine Cl.mono (TBuild_spec (hpa hS) (kAd _) hpt) ?_
  rintro _ w13 ⟨rfl, hS'⟩
  have hS := hS.call0 hS'
  have htl := hpt.bytes
  have hop := fun (w : World) => TOpen_spec (w := w) hpt
  generalize tableB p = t at htl hop hstep ⊢
  repeat (first | refine SemM.run tblOk ?_ | ((first | refine jA ?_ ?_ | refine jB ?_ ?_ | refine jC ?_ ?_ | refine jD ?_ ?_); omega) | refine jE rfl ?_ | refine jF (by first | omega | exact ptr_ok tblOk rfl rfl | decide) ?_ | (refine jG ?_; first | with_reducible (first | apply jH | apply jI | apply jJ | apply jK | apply jL) | refine jM (by omega) ?_ | refine jN (by omega) ?_ | with_reducible refine jM rfl ?_ | refine jM (by first | assumption | decide) ?_ | refine jN (by first | assumption | decide) ?_) | refine jO (fun _ => by kernel_rfl) ?_ | refine hS.ld rfl ?_ | refine hS.ldn rfl ?_ | (refine hS.st rfl rfl ?_; intro _ hS))
  refine SemM.draw tblOk mixed (fun w' => St w T0 _ w') [4, 5] [0, 1, 3, 2, 4, 5] (by kernel_rfl) hS.drew ?_
  have hS := hS.drew
  refine jr ⟨?_⟩
  refine Cl.mono (Table_spec (n := n + i) ⟨by omega, by omega⟩ (hG.keep hS).tab) ?_
  rintro _ w14 ⟨rfl, hS'⟩
  have hS := hS.call0 hS'
  refine Chk.mk hS ?_
  refine jr ⟨?_⟩
  refine Cl.mono (file_spec hFi (hS.part (L := Li)) (hS.oldCell hsb hc2) (hS.notin hsz hsb) (tName (n + i)) t (by omega) hBi (by omega)) ?_
  rintro _ w15 ⟨rfl, Li2, hF2, hS'⟩
  have hS := hS.call (L := Li) hS'
  have hB2 := hBi.file (tName (n + i)) t (by omega)
  generalize fileM mi (tName (n + i)) t = fm at hF2 hB2 hstep ⊢
  obtain ⟨e, m2⟩ := fm
  simp only at hF2 hB2 hstep ⊢
  by_cases he : e = 0
  ·subst he
   rw [if_neg (by simp)] at hstep
   repeat (first | refine SemM.run tblOk ?_ | ((first | refine jA ?_ ?_ | refine jB ?_ ?_ | refine jC ?_ ?_ | refine jD ?_ ?_); omega) | refine jE rfl ?_ | refine jF (by first | omega | exact ptr_ok tblOk rfl rfl | decide) ?_ | (refine jG ?_; first | with_reducible (first | apply jH | apply jI | apply jJ | apply jK | apply jL) | refine jM (by omega) ?_ | refine jN (by omega) ?_ | with_reducible refine jM rfl ?_ | refine jM (by first | assumption | decide) ?_ | refine jN (by first | assumption | decide) ?_) | refine jO (fun _ => by kernel_rfl) ?_ | refine hS.ld rfl ?_ | refine hS.ldn rfl ?_ | (refine hS.st rfl rfl ?_; intro _ hS))
   refine Cl.mono (hop _) ?_
   rintro _ w16 ⟨tb, Ltb, rfl, hTO, hS'⟩
   have hS := hS.callNew hS'
   repeat (first | refine SemM.run tblOk ?_ | ((first | refine jA ?_ ?_ | refine jB ?_ ?_ | refine jC ?_ ?_ | refine jD ?_ ?_); omega) | refine jE rfl ?_ | refine jF (by first | omega | exact ptr_ok tblOk rfl rfl | decide) ?_ | (refine jG ?_; first | with_reducible (first | apply jH | apply jI | apply jJ | apply jK | apply jL) | refine jM (by omega) ?_ | refine jN (by omega) ?_ | with_reducible refine jM rfl ?_ | refine jM (by first | assumption | decide) ?_ | refine jN (by first | assumption | decide) ?_) | refine jO (fun _ => by kernel_rfl) ?_ | refine hS.ld rfl ?_ | refine hS.ldn rfl ?_ | (refine hS.st rfl rfl ?_; intro _ hS))
   refine hS.al ?_
   intro b50 w17 _ hS
   repeat (first | refine SemM.run tblOk ?_ | ((first | refine jA ?_ ?_ | refine jB ?_ ?_ | refine jC ?_ ?_ | refine jD ?_ ?_); omega) | refine jE rfl ?_ | refine jF (by first | omega | exact ptr_ok tblOk rfl rfl | decide) ?_ | (refine jG ?_; first | with_reducible (first | apply jH | apply jI | apply jJ | apply jK | apply jL) | refine jM (by omega) ?_ | refine jN (by omega) ?_ | with_reducible refine jM rfl ?_ | refine jM (by first | assumption | decide) ?_ | refine jN (by first | assumption | decide) ?_) | refine jO (fun _ => by kernel_rfl) ?_ | refine hS.ld rfl ?_ | refine hS.ldn rfl ?_ | (refine hS.st rfl rfl ?_; intro _ hS))
   refine St.app (sz := 2) (m := 1) tblOk rfl rfl rfl rfl hS hV (news := fileC (lev, n + i)) rfl (by have := hS.arr (b := b50) (T' := []) (by simp); exact this) rfl (by show (_ + _) * 16 ≤ _; omega) (by omega) ?_
   intro a12 c12 Lf2 w18 hV2 hS
   repeat (first | refine SemM.run tblOk ?_ | ((first | refine jA ?_ ?_ | refine jB ?_ ?_ | refine jC ?_ ?_ | refine jD ?_ ?_); omega) | refine jE rfl ?_ | refine jF (by first | omega | exact ptr_ok tblOk rfl rfl | decide) ?_ | (refine jG ?_; first | with_reducible (first | apply jH | apply jI | apply jJ | apply jK | apply jL) | refine jM (by omega) ?_ | refine jN (by omega) ?_ | with_reducible refine jM rfl ?_ | refine jM (by first | assumption | decide) ?_ | refine jN (by first | assumption | decide) ?_) | refine jO (fun _ => by kernel_rfl) ?_ | refine hS.ld rfl ?_ | refine hS.ldn rfl ?_ | (refine hS.st rfl rfl ?_; intro _ hS))
   refine St.mapSet tblOk KEnc.i64 rfl rfl und_int hS (k := n + (i : Int)) (v := tb) hM ?_
   intro et2 ct2 w19 hM2 hS
   repeat (first | refine SemM.run tblOk ?_ | ((first | refine jA ?_ ?_ | refine jB ?_ ?_ | refine jC ?_ ?_ | refine jD ?_ ?_); omega) | refine jE rfl ?_ | refine jF (by first | omega | exact ptr_ok tblOk rfl rfl | decide) ?_ | (refine jG ?_; first | with_reducible (first | apply jH | apply jI | apply jJ | apply jK | apply jL) | refine jM (by omega) ?_ | refine jN (by omega) ?_ | with_reducible refine jM rfl ?_ | refine jM (by first | assumption | decide) ?_ | refine jN (by first | assumption | decide) ?_) | refine jO (fun _ => by kernel_rfl) ?_ | refine hS.ld rfl ?_ | refine hS.ldn rfl ?_ | (refine hS.st rfl rfl ?_; intro _ hS))
   have hS := hS.sub (kAb _ _)
   have hkk := hTb.keys
   have hkn : n + (i : Int) ∉ ks.map (·.1) := by
    rw [hkk, numsFrom_keys, kAo, Nat.min_eq_left hile]; omega
   rw [kput_new hkn] at hM2
   have hnum : numsFrom n (P.take (i + 1)) = numsFrom n (P.take i) ++ [(n + (i : Int), p)] := by
    rw [hsucc, numsFrom_snoc, kAo, Nat.min_eq_left hile]
   have hTb2 := hTb.snoc (n := n + (i : Int)) hTO
   rw [← hnum] at hTb2
   have hV3 : Vec T_api_File 2 a12 (i + 1) c12 ((filesOf lev (numsFrom n (P.take (i + 1)))).flatMap fileC) Lf2 := by
    rw [hnum]; unfold filesOf at hV2 ⊢; rw [kAi, kCm]; exact hV2
   have hsp := hS.put (b := lp) (lo .ready none)
   refine ⟨hS.mem (b := lp), hK _ ⟨hiP, a12, c12, Lf2, et2, ct2, _, Lt ++ Ltb, m2, Li2, hV3, hM2, hTb2, hF2, hB2.mono (by omega), hstep, ?_⟩⟩
   rw [show n + ((i + 1 : Nat) : Int) = n + (i : Int) + 1 by omega]
   refine St.perm hsp ?_
   repeat refine kBg.trans (List.Perm.cons _ ?_)
   refine (kCq Ltb Lf2 _).trans (List.Perm.append_left _ ?_)
   rw [kAc]
   exact kCq Ltb Lt _
  ·rw [if_pos he] at hstep
   repeat (first | refine SemM.run tblOk ?_ | ((first | refine jA ?_ ?_ | refine jB ?_ ?_ | refine jC ?_ ?_ | refine jD ?_ ?_); omega) | refine jE rfl ?_ | refine jF (by first | omega | exact ptr_ok tblOk rfl rfl | decide) ?_ | (refine jG ?_; first | with_reducible (first | apply jH | apply jI | apply jJ | apply jK | apply jL) | refine jM (by omega) ?_ | refine jN (by omega) ?_ | with_reducible refine jM rfl ?_ | refine jM (by first | assumption | decide) ?_ | refine jN (by first | assumption | decide) ?_) | refine jO (fun _ => by kernel_rfl) ?_ | refine hS.ld rfl ?_ | refine hS.ldn rfl ?_ | (refine hS.st rfl rfl ?_; intro _ hS))
   have hsp := hS.put (b := lp) (lo .done (some .ret))
   refine ⟨hS.mem (b := lp), hKs _ ⟨by rw [hstep]; exact he, et, ct, a11, i, c11, n + (i : Int), Lf ++ Lt, Li2, by rw [hstep]; exact hF2, ?_⟩⟩
   rw [kAc, hstep]
   exact hsp
 ·rintro _ w12 (⟨i, hi, hile, a11, c11, Lf, et, ct, ks, Lt, mi, Li, hV, hM, hTb, hFi, hBi, hlay, hS⟩ | ⟨hne, et, ct, a11, i, c11, z, R, Li, hFi, hS⟩)
  ·obtain rfl : i = P.length := by omega
   rw [kAr] at hV hTb
   rw [kCt] at hlay
   refine ⟨.ready, none, hS.mem (b := lp), by decide, ?_⟩
   have hS := hS.put (b := lp) (lo .exhausted none)
   generalize w12.putObj lp (lo .exhausted none) = w13 at hS ⊢
   repeat (first | refine SemM.run tblOk ?_ | ((first | refine jA ?_ ?_ | refine jB ?_ ?_ | refine jC ?_ ?_ | refine jD ?_ ?_); omega) | refine jE rfl ?_ | refine jF (by first | omega | exact ptr_ok tblOk rfl rfl | decide) ?_ | (refine jG ?_; first | with_reducible (first | apply jH | apply jI | apply jJ | apply jK | apply jL) | refine jM (by omega) ?_ | refine jN (by omega) ?_ | with_reducible refine jM rfl ?_ | refine jM (by first | assumption | decide) ?_ | refine jN (by first | assumption | decide) ?_) | refine jO (fun _ => by kernel_rfl) ?_)
   have hS0 := hS.drew
   have hS := hS0.sub (.cons_cons _ (.cons_cons _ (.cons_cons _ (.cons_cons _ (.cons_cons _ (.cons_cons _ (.cons_cons _ (.cons_cons _ (.cons_cons _ (kAb _ _))))))))))
   refine SemM.draw tblOk mixed (fun w' => St w T0 _ w') [3, 4] [0, 1, 2, 3, 4] (by kernel_rfl) hS ?_
   refine jr ⟨?_⟩
   have hS := hS0
   refine hS.st rfl rfl ?_
   intro w14 hS
   have hS := hS
   refine Chk.mk (hS.sub (.cons_cons _ (.cons_cons _ (.cons_cons _ (.cons_cons _ (.cons_cons _ (.cons_cons _ (.cons_cons _ (.cons_cons _ (.cons_cons _ (kAb _ _))))))))))) ?_
   refine jr ⟨?_⟩
   repeat (first | refine SemM.run tblOk ?_ | ((first | refine jA ?_ ?_ | refine jB ?_ ?_ | refine jC ?_ ?_ | refine jD ?_ ?_); omega) | refine jE rfl ?_ | refine jF (by first | omega | exact ptr_ok tblOk rfl rfl | decide) ?_ | (refine jG ?_; first | with_reducible (first | apply jH | apply jI | apply jJ | apply jK | apply jL) | refine jM (by omega) ?_ | refine jN (by omega) ?_ | with_reducible refine jM rfl ?_ | refine jM (by first | assumption | decide) ?_ | refine jN (by first | assumption | decide) ?_) | refine jO (fun _ => by kernel_rfl) ?_ | refine hS.ld rfl ?_ | refine hS.ldn rfl ?_ | (refine hS.st rfl rfl ?_; intro _ hS))
   refine ⟨(by assumption : St w T0 _ _).mem (b := D), ?_⟩
   have hS := hS.put (b := D) (.deferred none)
   generalize World.putObj _ D (.deferred none) = w15 at hS ⊢
   have hS := hS
   repeat (first | refine SemM.run tblOk ?_ | ((first | refine jA ?_ ?_ | refine jB ?_ ?_ | refine jC ?_ ?_ | refine jD ?_ ?_); omega) | refine jE rfl ?_ | refine jF (by first | omega | exact ptr_ok tblOk rfl rfl | decide) ?_ | (refine jG ?_; first | with_reducible (first | apply jH | apply jI | apply jJ | apply jK | apply jL) | refine jM (by omega) ?_ | refine jN (by omega) ?_ | with_reducible refine jM rfl ?_ | refine jM (by first | assumption | decide) ?_ | refine jN (by first | assumption | decide) ?_) | refine jO (fun _ => by kernel_rfl) ?_ | refine hS.ld rfl ?_ | refine hS.ldn rfl ?_ | (refine hS.st rfl rfl ?_; intro _ hS))
   refine .inr ⟨by rw [hlay]; rfl, a11, c11, Lf, mm, et, ct, ks, Lt, Li, rfl, hV, hM, hTb, by rw [hlay]; exact hFi, ?_⟩
   exact hS.sub (.cons _ (.cons _ (.cons _ (.cons _ (.cons _ (.cons_cons _ (.cons _ (.cons _ (.cons _ (.cons _ (.cons _ (.cons _ (.cons _ (List.Sublist.refl _))))))))))))))
  ·refine ⟨.done, some .ret, hS.mem (b := lp), by decide, ?_⟩
   have hS := hS.put (b := lp) (lo .exhausted (some .ret))
   generalize w12.putObj lp (lo .exhausted (some .ret)) = w13 at hS ⊢
   refine ⟨hS.mem (b := D), ?_⟩
   have hS := hS.put (b := D) (.deferred none)
   generalize w13.putObj D (.deferred none) = w14 at hS ⊢
   repeat (first | refine SemM.run tblOk ?_ | ((first | refine jA ?_ ?_ | refine jB ?_ ?_ | refine jC ?_ ?_ | refine jD ?_ ?_); omega) | refine jE rfl ?_ | refine jF (by first | omega | exact ptr_ok tblOk rfl rfl | decide) ?_ | (refine jG ?_; first | with_reducible (first | apply jH | apply jI | apply jJ | apply jK | apply jL) | refine jM (by omega) ?_ | refine jN (by omega) ?_ | with_reducible refine jM rfl ?_ | refine jM (by first | assumption | decide) ?_ | refine jN (by first | assumption | decide) ?_) | refine jO (fun _ => by kernel_rfl) ?_ | refine hS.ld rfl ?_ | refine hS.ldn rfl ?_ | (refine hS.st rfl rfl ?_; intro _ hS))
   refine .inl ⟨hne, rfl, Li, hFi, ?_⟩
   exact hS.sub (.cons _ (.cons _ (.cons _ (.cons _ (.cons _ (.cons _ (.cons _ (.cons _ (.cons _ (.cons _ (.cons _ (.cons _ (.cons _ (kAj _ _))))))))))))))
structure CI where
 seen : Array Nat
 dn : List (Int × Nat)
 td : List (Int × Nat)
theorem putAll_snoc {α : Type} (t made : List (Int × α)) (x : Int × α) : putAll t (made ++ [x]) = kput x.1 x.2 (putAll t made) := by
 unfold putAll; rw [kCn]; rfl
set_option maxHeartbeats 2000000 in
theorem Copy_spec {w : World} {d sr : Nat} {ed es : Array MapEntry} {cd cs : Nat} {kd ks : List (Int × Nat)} (hd : MapC intV (fun b : Nat => ptr b) ed cd kd) (hs : MapC intV (fun b : Nat => ptr b) es cs ks) (hh : Holds [(d, .map ed cd), (sr, .map es cs)] w) :
  Cl Tryz.prog f_maps_Copy_map_int_table_Table_map_int_table_Table_int_table_Table [.map (some d), .map (some sr)] w fun _ w' => ∃ ks' ed' cd', ks'.Perm ks ∧ MapC intV (fun b : Nat => ptr b) ed' cd' (putAll kd ks') ∧ St w [d, sr] [(d, .map ed' cd'), (sr, .map es cs)] w' := by
 have hS : St w [d, sr] [(d, .map ed cd), (sr, .map es cs)] w := St.enter hh
 refine en_maps_Copy_map_int_table_Table_map_int_table_Table_int_table_Table rfl ?_
 (repeat (refine jt ⟨?_⟩; refine hS.st rfl rfl ?_; intro _ hS)); refine jt ⟨?_⟩
 refine St.rangeM (m := sr) tblOk rfl rfl hS ?_
 intro it w1 _ hS
 (repeat (refine jt ⟨?_⟩; refine hS.st rfl rfl ?_; intro _ hS)); refine jt ⟨?_⟩
 refine SemW.loop (fun z : CI => [(0, .map (some d)), (7, ptr it)])
  (fun z w' => MRg intV (fun b : Nat => ptr b) es z.seen ks z.dn z.td ∧ ∃ ed' cd', MapC intV (fun b : Nat => ptr b) ed' cd' (putAll kd z.dn) ∧ St w [d, sr] [(it, .mapIter (some sr) cs z.seen cs), (d, .map ed' cd'), (sr, .map es cs)] w') (fun z => z.td.length) ⟨#[], [], ks⟩
  ⟨rfl, rfl, trivial⟩ ⟨MRg.start hs, ed, cd, hd, hS⟩ ?_
 clear hS
 rintro ⟨seen, dn, td⟩ w2 ⟨hR, ed2, cd2, hM, hS⟩
 simp only at hR hM hS ⊢
 (repeat (refine jt ⟨?_⟩; refine hS.st rfl rfl ?_; intro _ hS)); refine jt ⟨?_⟩
 refine St.nextM (kvs := ks) hS (hS.mem (b := sr)) hs hR (fun htd => ?_) (fun A x B e w5 htd hR2 he1 he2 he3 hS => ?_)
 ·(repeat (refine jt ⟨?_⟩; refine hS.st rfl rfl ?_; intro _ hS)); refine jt ⟨?_⟩
  subst htd
  have hp := hR.perm
  rw [kAk] at hp
  exact ⟨dn, ed2, cd2, hp, hM, hS.sub (kAb _ _)⟩
 ·(repeat (refine jt ⟨?_⟩; refine hS.st rfl rfl ?_; intro _ hS)); refine jt ⟨?_⟩
  refine St.entryM (kvs := ks) hS (hS.mem (b := sr)) hs he1 he2 he3 ?_
  (repeat (refine jt ⟨?_⟩; refine hS.st rfl rfl ?_; intro _ hS)); refine jt ⟨?_⟩
  refine St.mapSet tblOk KEnc.i64 rfl rfl und_int hS (k := x.1) (v := x.2) hM ?_
  intro ed3 cd3 w6 hM3 hS
  (repeat (refine jt ⟨?_⟩; refine hS.st rfl rfl ?_; intro _ hS)); refine jt ⟨?_⟩
  exact ⟨⟨seen.push e.born, dn ++ [x], A ++ B⟩, ⟨rfl, rfl, trivial⟩, ⟨hR2, ed3, cd3, by rw [putAll_snoc]; exact hM3, hS⟩, by rw [htd]; simp⟩
theorem TabsO.perm {ks ks' : List (Int × Nat)} (hp : ks'.Perm ks) : ∀ {ts : List (Int × List EntM)} {L : Heap}, TabsO ks ts L → ∃ ts' L', ts'.Perm ts ∧ TabsO ks' ts' L' ∧ L'.Perm L := by
 induction hp with
 |nil => intro ts L h; exact ⟨ts, L, .refl _, h, .refl _⟩
 |cons x _ ih =>
  intro ts L h
  cases h with
  |cons h r =>
   obtain ⟨ts', L', h1, h2, h3⟩ := ih r
   exact ⟨_, _, h1.cons _, .cons h h2, h3.append_left _⟩
 |swap x y l =>
  intro ts L h
  cases h with
  |cons h r =>
   cases r with
   |cons h2 r =>
    exact ⟨_, _, .swap _ _ _, .cons h2 (.cons h r), by rw [← kAc, ← kAc]; exact kCi.append_right _⟩
 |trans _ _ ih1 ih2 =>
  intro ts L h
  obtain ⟨t1, L1, h1, h2, h3⟩ := ih2 h
  obtain ⟨t2, L2, h4, h5, h6⟩ := ih1 h2
  exact ⟨t2, L2, h4.trans h1, h5, h6.trans h3⟩
theorem TabsO.put {ks : List (Int × Nat)} {ts : List (Int × List EntM)} {M : Heap} (h : TabsO ks ts M) {n : Int} {tb : Nat} {l : List EntM} {L : Heap} (ht : TabO tb l L) : ∃ M' R, TabsO (kput n tb ks) (kput n l ts) M' ∧ (M' ++ R).Perm (L ++ M) := by
 induction h with
 |nil => exact ⟨L ++ [], [], .cons ht .nil, by simp⟩
 |@cons n' tb' l' L' ks ts M h r ih =>
  unfold kput
  by_cases e : n = n'
  ·rw [if_pos e, if_pos e]
   exact ⟨L ++ M, L', .cons ht r, by rw [kAc]; exact kCi.append_left _⟩
  ·rw [if_neg e, if_neg e]
   obtain ⟨M', R, h1, h2⟩ := ih
   refine ⟨L' ++ M', R, .cons h h1, ?_⟩
   rw [kAc]
   exact (h2.append_left L').trans (kCq _ _ _)
theorem TabsO.putAll {ks : List (Int × Nat)} {ts : List (Int × List EntM)} {M : Heap} (h : TabsO ks ts M) : ∀ {kn : List (Int × Nat)} {tn : List (Int × List EntM)} {N : Heap}, TabsO kn tn N → ∃ M' R, TabsO (Proofs.YtkgibdhpijdbfaaGreatDoor.putAll ks kn) (Proofs.YtkgibdhpijdbfaaGreatDoor.putAll ts tn) M' ∧ (M' ++ R).Perm (N ++ M) := by
 intro kn tn N hn
 induction hn generalizing ks ts M with
 |nil => exact ⟨M, [], h, by simp⟩
 |@cons n tb l L kn tn N ht _ ih =>
  obtain ⟨M1, R1, h1, h2⟩ := h.put (n := n) ht
  obtain ⟨M2, R2, h3, h4⟩ := ih h1
  refine ⟨M2, R2 ++ R1, h3, ?_⟩
  rw [← kAc]
  refine (h4.append_right R1).trans ?_
  rw [kAc]
  refine (h2.append_left N).trans ?_
  rw [kAc]
  exact kCq _ _ _
theorem TabsO.del {ks : List (Int × Nat)} {ts : List (Int × List EntM)} {M : Heap} (h : TabsO ks ts M) (n : Int) : ∃ M', TabsO (kdel n ks) (kdel n ts) M' ∧ M'.Sublist M := by
 induction h with
 |nil => exact ⟨[], .nil, .refl _⟩
 |@cons n' tb' l' L' ks ts M h r ih =>
  unfold kdel
  by_cases e : n = n'
  ·rw [if_pos e, if_pos e]
   exact ⟨M, r, kAj _ _⟩
  ·rw [if_neg e, if_neg e]
   obtain ⟨M', h1, h2⟩ := ih
   exact ⟨L' ++ M', .cons h h1, h2.append_left _⟩
end Go.Proofs.YtkgibdhpijdbfaaGreatDoor
namespace Go.Eng
open Go
def takePOK (ops : Array Oper) (kd : Op → OpKind) (listed : Array Bool) (i : Nat) : Bool := match ops[i]? with
 |none => false
 |some o => (match kd o.op with | .pure => true | _ => false) && (Region.ready .any ops listed).contains i && free' ops listed i
def takesPOK (ops : Array Oper) (kd : Op → OpKind) : List Nat → Array Bool → Bool
 |[], _ => true
 |i :: r, listed => takePOK ops kd listed i && takesPOK ops kd r (listed.setIfInBounds i true)
section
variable {P : Program} {T : Tbl} (hT : TOk P T) {N : Nat} {all : List Oper} {fin : List Nat} {Q : Exit → Env → World → Prop}
include hT
theorem DrawG.takesP (hsel : Region.noSelect ⟨all⟩ = true) (n : Nat) : ∀ (is : List Nat) {listed : Array Bool} {e : Env} {w : World} (_h : takesPOK ⟨all⟩ (kind T) is listed = true) (_g : vcT P T N all fin Q n is listed e w), DrawG P T N all fin Q (n + is.length) listed e w
 |[], _, _, _, _, g => g
 |i :: r, listed, e, w, h, g => by
  refine ⟨fun a hcl hr => ?_⟩
  simp only [takesPOK, Bool.and_eq_true] at h
  obtain ⟨h1, h2⟩ := h
  obtain ⟨o, ho, g⟩ := atK_iff g
  have ho' : (Array.mk all)[i]? = some o := by simpa using ho
  unfold takePOK at h1
  simp only [ho', Bool.and_eq_true] at h1
  obtain ⟨⟨hk, hrd⟩, hf⟩ := h1
  have hready : i ∈ Region.ready .any ⟨all⟩ listed := by simpa using hrd
  have key : ∀ (v : Value) (e' : Env), YieldsIf P ⟨all⟩ (fun _ => True) o v a → Rel [] N e' (a.put o.dst v) → vcT P T N all fin Q n r (listed.setIfInBounds i true) e' w →
    wpAnyR P .any ⟨all⟩ (lift N Q) (grewS fin) (n + (i :: r).length) listed a w := by
   intro v e' hy hr' hv
   rw [kAe, ← kCs]
   refine wpAnyR_first (C := fun _ => True) (n := all.length) ho' (Region.noSelect_spec hsel) (fun c a w h => h.elim) (fun w => .inr (Grew.refl w)) (n + r.length) listed a w hcl ?_ hready hy trivial ?_
   ·intro j oj hj hne hun hd
    have hjlt : j < all.length := by have := (Array.getElem?_eq_some_iff.1 hj).1; simpa using this
    simp only [free', ho', kBd, List.mem_range] at hf
    have h1 := hf j (by simpa using hjlt)
    have hd' : dep ⟨all⟩ (Array.mk all).size j i = false := hd
    simp only [hj, Bool.or_eq_true, beq_iff_eq, hne, false_or, hun, hd', Bool.false_eq_true] at h1
    exact ⟨h1, fun _ _ _ _ => trivial⟩
   ·exact (DrawG.takesP hsel n r h2 hv).out _ (hcl.set hready) hr'
  rcases grdG_iff hr g with ⟨e1, h1, h2, h3⟩ | ⟨e1, h1, h2, h3⟩
  ·cases hk' : kind T o.op <;> simp only [hk'] at h3 hk <;> try (exact absurd hk (by decide))
   case pure =>
    obtain ⟨v, h4, h5⟩ := pureG_sound hT h1 h3
    obtain ⟨e', h6, h7⟩ := putE_iff h4 h1
    exact key v e' (.inl ⟨h2, fun w _ => h5 w⟩) h6 h7
  ·obtain ⟨e', h6, h7⟩ := putE_iff h3 h1
   exact key undef e' (.inr ⟨h2, rfl⟩) h6 h7
end
end Go.Eng
namespace Go.Proofs.YtkgibdhpijdbfaaGreatDoor
open Go Go.Eng Go.Proofs Go.Srt
theorem relistM_fst (s : StM) (m : FSm) (v : VM) : (relistM s m v).2.2.1 = { v with next := v.next + 1 } ∧ ∃ l, (relistM s m v).2.1 = { s with list := l } := by
 unfold relistM
 simp only
 split
 ·exact ⟨rfl, s.list, rfl⟩
 ·split
  ·exact ⟨rfl, s.list, rfl⟩
  ·split
   ·exact ⟨rfl, s.list, rfl⟩
   ·split
    ·exact ⟨rfl, s.list, rfl⟩
    ·exact ⟨rfl, _, rfl⟩
theorem delNs_snoc {α : Type} (t : List (Int × α)) (ns : List Int) (n : Int) : delNs t (ns ++ [n]) = kdel n (delNs t ns) := by
 unfold delNs; rw [kCn]; rfl
theorem TabsO.delNs {ks : List (Int × Nat)} {ts : List (Int × List EntM)} {M : Heap} (h : TabsO ks ts M) (ns : List Int) : ∃ M', TabsO (Proofs.YtkgibdhpijdbfaaGreatDoor.delNs ks ns) (Proofs.YtkgibdhpijdbfaaGreatDoor.delNs ts ns) M' ∧ M'.Sublist M := by
 induction ns generalizing ks ts M with
 |nil => exact ⟨M, h, .refl _⟩
 |cons n ns ih =>
  obtain ⟨M1, h1, h2⟩ := h.del n
  obtain ⟨M2, h3, h4⟩ := ih h1
  exact ⟨M2, h3, h4.trans h2⟩
theorem mmIn (a b p q r mm : Nat × Obj) (V T R : Heap) : (a :: (V ++ (b :: mm :: (T ++ (p :: q :: r :: R))))).Perm (a :: (V ++ (b :: (T ++ (p :: q :: r :: mm :: R))))) := by
 classical
 refine kDf.2 fun a => ?_
 simp only [kCl, kDa, List.count_nil]
 omega
theorem allIn (p q r : Nat × Obj) (V T H L G M N F : Heap) : (V ++ (T ++ (p :: q :: r :: (H ++ (L ++ (G ++ (M ++ (N ++ F)))))))).Perm (p :: q :: r :: (H ++ (V ++ (L ++ (G ++ (M ++ ((T ++ N) ++ F))))))) := by
 classical
 refine kDf.2 fun a => ?_
 simp only [kCl, kDa, List.count_nil]
 omega
set_option maxRecDepth 4000 in
set_option maxHeartbeats 16000000 in
theorem Sedit_spec {w : World} {sb f A : Nat} {s : StM} {m : FSm} {L : Heap} (hO : StO sb f s m L) {mm : Nat} {em : Array MapEntry} {cm : Nat} {km : List (Int × Nat)} {Lt1 : Heap} {made : List (Int × List EntM)} (hmm : MapC intV (fun b : Nat => ptr b) em cm km) (hmt : TabsO km made Lt1)
  (hh : Holds ((mm, .map em cm) :: (Lt1 ++ L)) w) (hG : Glob w (keys ((mm, .map em cm) :: (Lt1 ++ L)))) {x y : Option Addr} {cx cy : Nat} {e : EM} (hx : Arr w (keys ((mm, .map em cm) :: (Lt1 ++ L))) x (e.add.flatMap fileC)) (hxc : e.add.length ≤ cx)
  (hy : Arr w (keys ((mm, .map em cm) :: (Lt1 ++ L))) y (e.del.map intV)) (hyc : e.del.length ≤ cy) (hel : e.add.length + e.del.length ≤ 8388608) (her : -9223372036854775808 ≤ e.wal ∧ e.wal ≤ 9223372036854775807 ∧ -9223372036854775808 ≤ e.next ∧ e.next ≤ 9223372036854775807 ∧ -9223372036854775808 ≤ e.seq ∧ e.seq ≤ 9223372036854775807)
  (hok : OkE e) (hnx : ∀ nx, applyM s.v e = some nx → rightE (wholeE { nx with next := nx.next + 1 }) = true ∧ OkE (wholeE { nx with next := nx.next + 1 }) ∧ (sumLen (editsB { nx with next := nx.next + 1 }) + 8 * (editsB { nx with next := nx.next + 1 }).length ≤ 1099511627776) ∧ 0 ≤ nx.next ∧ nx.next ≤ 2305843009213693952)
  {g : LogM} (hls : s.list = some g) (hgn : g.n ≤ 4611686018427387904) (hfl : s.v.files.length + e.add.length ≤ 8388608) (hB : FB A m) (hA : A + 10 ≤ 4611686018427387904) :
  Cl Tryz.prog f_store_Store_edit [ptr sb, .agg ⟨editC x y cx cy e⟩, .map (some mm)] w fun r w' => ∃ made', made'.Perm made ∧ r = .int .i64 (editM s m e made').1 ∧ ∃ L', StO sb f (editM s m e made').2.1 (editM s m e made').2.2 L' ∧ St w (keys ((mm, .map em cm) :: (Lt1 ++ L))) L' w' := by
 have hS := St.enter hh
 generalize hT : keys _ = T0 at hS hG hx hy ⊢
 unfold editC
 refine en_store_Store_edit rfl ?_
 (repeat (refine jt ⟨?_⟩; refine hS.st rfl rfl ?_; intro _ hS)); refine jt ⟨?_⟩
 refine hS.al ?_
 intro b4 w1 _ hS
 (repeat (refine ju ⟨?_⟩; refine hS.st rfl rfl ?_; intro _ hS)); refine ju ⟨?_⟩
 refine SemW.join (fun b7 : Nat => [(0, ptr sb), (2, .map (some mm)), (4, ptr b4), (6, .int .i64 0), (7, ptr b7), (8, .int .i64 (errI (applyM s.v e)))])
  (fun b7 w' => ∃ a1 c1 Lv, VersV a1 c1 ((applyM s.v e).getD zeroV) Lv ∧ St w T0 ((b7, .cells ⟨versC a1 c1 ((applyM s.v e).getD zeroV)⟩ T_api_Version (0, 0)) :: (Lv ++ ((b4, .cells ⟨[.slice x e.add.length cx, .slice y e.del.length cy, .int .i64 e.wal, .int .i64 e.next, .int .i64 e.seq]⟩ T_api_Edit (0, 0)) :: (mm, .map em cm) :: (Lt1 ++ L)))) w') ?_ ?_
 ·obtain ⟨L', hLL, hO'⟩ : ∃ L', L' = L ∧ StO sb f s m L' := ⟨L, rfl, hO⟩
  obtain ⟨sq, es, c, hsq, ha, hc, Lh, hvh, a3, c3, La, hv3, lv, Ll, hl3, gv, Lg, hg, mb, Lm, hm, tm, et, ct, ks, ht, Lt, hts, LF, hF⟩ := hO'
  rw [← hLL] at hS ⊢
  refine jq ⟨?_⟩
  refine SemW.drawR tblOk mixed [11] ?_
  have hS := hS.drew
  generalize w1.drew = w1 at hS
  refine DrawG.takes tblOk (by kernel_rfl) 8 [0, 1, 2, 3, 4] (by kernel_rfl) ?_
  refine js ⟨?_⟩
  refine DrawG.alt tblOk 5 [10] (by kernel_rfl) ⟨?_, ?_, trivial⟩
  ·refine hS.alG ?_
   intro b19 w2 hGr hS
   refine Chk.mk hGr ?_
   refine DrawG.alt tblOk 6 [10] (by kernel_rfl) ⟨?_, ?_, trivial⟩
   ·have hes : RSl 5 REditA _ [.slice (some ⟨b19, 0, none⟩) [e].length 1] [e] := RSl.own (css := [editC x y cx cy e]) (tail := []) (xs := [e]) hS rfl (by simp [editC]) (fun j h1 h2 => by
     obtain rfl : j = 0 := by simp at h1; exact h1
     exact ⟨x, y, cx, cy, rfl, ⟨⟨(hS.arrOld hx).sub (by simp), hxc⟩, (hS.arrOld hy).sub (by simp), hyc, by show e.add.length + e.del.length ≤ 16777216; omega, her⟩⟩) (kAd _) trivial
    refine Cl.mono (Apply_spec (hv3.at hS) hes (by simp [addLen]; omega) (by simp)) ?_
    intro r w9 hpost
    rw [applyAll_one] at hpost
    obtain ⟨a1, c1, Lv, rfl, hv1, hS'⟩ := hpost.out
    refine Chk.mk hS'.nil ?_
    have hS := hS.callNew hS'
    refine DrawG.takesP tblOk (by kernel_rfl) 3 [7, 8, 9] (by kernel_rfl) ?_
    refine js ⟨?_⟩
    refine DrawG.alt tblOk 10 [] (by kernel_rfl) ⟨?_, trivial⟩
    refine hS.alG ?_
    intro b7 w4 hGr hS
    refine Chk.mk hGr ?_
    refine DrawG.alt tblOk 11 [] (by kernel_rfl) ⟨?_, trivial⟩
    refine hS.st rfl rfl ?_
    intro _ hS
    refine DrawG.takes tblOk (by kernel_rfl) 0 [12] (by kernel_rfl) ?_
    refine js ⟨?_⟩
    refine DrawG.done (by kernel_rfl) ?_
    refine jq ⟨?_⟩
    exact ⟨b7, ⟨rfl, rfl, rfl, rfl, rfl, rfl, trivial⟩, a1, c1, Lv, hv1, (hS.sub (.cons_cons _ ((List.Sublist.refl Lv).append (kAb _ _))))⟩
   ·refine hS.alG ?_
    intro b7 w3 hGr hS
    refine Chk.mk hGr ?_
    refine DrawG.alt tblOk 6 [] (by kernel_rfl) ⟨?_, trivial⟩
    have hes : RSl 5 REditA _ [.slice (some ⟨b19, 0, none⟩) [e].length 1] [e] := RSl.own (css := [editC x y cx cy e]) (tail := []) (xs := [e]) hS rfl (by simp [editC]) (fun j h1 h2 => by
     obtain rfl : j = 0 := by simp at h1; exact h1
     exact ⟨x, y, cx, cy, rfl, ⟨⟨(hS.arrOld hx).sub (by simp), hxc⟩, (hS.arrOld hy).sub (by simp), hyc, by show e.add.length + e.del.length ≤ 16777216; omega, her⟩⟩) (kAd _) trivial
    refine Cl.mono (Apply_spec (hv3.at hS) hes (by simp [addLen]; omega) (by simp)) ?_
    intro r w9 hpost
    rw [applyAll_one] at hpost
    obtain ⟨a1, c1, Lv, rfl, hv1, hS'⟩ := hpost.out
    refine Chk.mk hS'.nil ?_
    have hS := hS.callNew hS'
    refine DrawG.takesP tblOk (by kernel_rfl) 2 [7, 8, 9] (by kernel_rfl) ?_
    refine js ⟨?_⟩
    refine DrawG.alt tblOk 11 [] (by kernel_rfl) ⟨?_, trivial⟩
    refine hS.st rfl rfl ?_
    intro _ hS
    refine DrawG.takes tblOk (by kernel_rfl) 0 [12] (by kernel_rfl) ?_
    refine js ⟨?_⟩
    refine DrawG.done (by kernel_rfl) ?_
    refine jq ⟨?_⟩
    exact ⟨b7, ⟨rfl, rfl, rfl, rfl, rfl, rfl, trivial⟩, a1, c1, Lv, hv1, ((St.perm hS kBg).sub (.cons_cons _ ((List.Sublist.refl Lv).append (kAb _ _))))⟩
  ·refine hS.alG ?_
   intro b7 w3 hGr hS
   refine Chk.mk hGr ?_
   refine DrawG.alt tblOk 5 [] (by kernel_rfl) ⟨?_, trivial⟩
   refine hS.alG ?_
   intro b19 w2 hGr hS
   refine Chk.mk hGr ?_
   refine DrawG.alt tblOk 6 [] (by kernel_rfl) ⟨?_, trivial⟩
   have hes : RSl 5 REditA _ [.slice (some ⟨b19, 0, none⟩) [e].length 1] [e] := RSl.own (css := [editC x y cx cy e]) (tail := []) (xs := [e]) hS rfl (by simp [editC]) (fun j h1 h2 => by
    obtain rfl : j = 0 := by simp at h1; exact h1
    exact ⟨x, y, cx, cy, rfl, ⟨⟨(hS.arrOld hx).sub (by simp), hxc⟩, (hS.arrOld hy).sub (by simp), hyc, by show e.add.length + e.del.length ≤ 16777216; omega, her⟩⟩) (kAd _) trivial
   refine Cl.mono (Apply_spec (hv3.at hS) hes (by simp [addLen]; omega) (by simp)) ?_
   intro r w9 hpost
   rw [applyAll_one] at hpost
   obtain ⟨a1, c1, Lv, rfl, hv1, hS'⟩ := hpost.out
   refine Chk.mk hS'.nil ?_
   have hS := hS.callNew hS'
   refine DrawG.takesP tblOk (by kernel_rfl) 2 [7, 8, 9] (by kernel_rfl) ?_
   refine js ⟨?_⟩
   refine DrawG.alt tblOk 11 [] (by kernel_rfl) ⟨?_, trivial⟩
   refine hS.st rfl rfl ?_
   intro _ hS
   refine DrawG.takes tblOk (by kernel_rfl) 0 [12] (by kernel_rfl) ?_
   refine js ⟨?_⟩
   refine DrawG.done (by kernel_rfl) ?_
   refine jq ⟨?_⟩
   exact ⟨b7, ⟨rfl, rfl, rfl, rfl, rfl, rfl, trivial⟩, a1, c1, Lv, hv1, (St.perm (hS.sub ((List.Sublist.refl Lv).append (kAb _ _))) kBg)⟩
 ·clear hS
  rintro b7 w2 ⟨a1, c1, Lv, hv1, hS⟩
  cases hap : applyM s.v e with
  |none =>
   have hM : editM s m e made = (11, s, m) := by unfold editM; rw [hap]
   rw [hap] at hS
   (repeat (refine jt ⟨?_⟩; refine hS.st rfl rfl ?_; intro _ hS)); refine jt ⟨?_⟩
   refine ⟨made, .refl _, by rw [hM]; rfl, L, by rw [hM]; exact hO, ?_⟩
   exact hS.sub (.cons _ (((kAj Lt1 L).cons _ |>.cons _).trans (kAj Lv _)))
  |some nx =>
   rw [hap] at hS hv1
   simp only [kBu] at hS hv1
   obtain ⟨hn1, hn2, hn3, hn4⟩ := hnx nx hap
   have hre : rightE e = true := by
    unfold applyM at hap
    split at hap
    ·rename_i h; unfold startOK at h; simp only [Bool.and_eq_true] at h; exact h.1.1.1
    ·cases hap
   have hnl := applyM_len hap
   (repeat (refine jt ⟨?_⟩; refine hS.st rfl rfl ?_; intro _ hS)); refine jt ⟨?_⟩
   have hS := hS
   refine Cl.mono (Encode_spec (e := e) ⟨⟨(hS.arrOld hx).sub (by simp), hxc⟩, (hS.arrOld hy).sub (by simp), hyc, by omega, her⟩ hok) ?_
   unfold encV
   rw [if_pos hre]
   rintro _ w3 ⟨rfl, hS'⟩
   have hS := hS.call0 hS'
   refine SemW.join (fun z : Int × StM × FSm × VM => [(0, ptr sb), (2, .map (some mm)), (4, ptr b4), (6, .int .i64 0), (7, ptr b7), (8, .int .i64 z.1)])
    (fun z w' => (∀ made', editM s m e made' = if z.1 ≠ 0 then (z.1, z.2.1, z.2.2.1) else (0, { z.2.1 with v := z.2.2.2, tabs := tabsWith s.tabs made' e.del }, z.2.2.1)) ∧ z.2.1.tabs = s.tabs ∧ VersV a1 c1 z.2.2.2 Lv ∧ ∃ L1, StO sb f z.2.1 z.2.2.1 L1 ∧
     St w T0 ((b7, .cells ⟨versC a1 c1 z.2.2.2⟩ T_api_Version (0, 0)) :: (Lv ++ ((b4, .cells ⟨[.slice x e.add.length cx, .slice y e.del.length cy, .int .i64 e.wal, .int .i64 e.next, .int .i64 e.seq]⟩ T_api_Edit (0, 0)) :: (mm, .map em cm) :: (Lt1 ++ L1)))) w') ?_ ?_
   ·have hMM : ∀ made', editM s m e made' = _ := fun made' => by unfold editM; rw [hap]
    simp only at hMM
    have hnr := hv1.rng
    by_cases hlong : 65536 < (editB e).length
    ·simp only [hlong, if_true] at hMM
     have hG2 : Glob _ (keys L) := (hG.step hS).sub fun b hb => by simp only [keys, kAh, kAi, kAf, kAl] at hb ⊢; exact .inr (.inr (.inr (.inr (.inr hb))))
     have hva2 := hv1.vec.arr hS (T' := keys L) (St.tl1 hS).disj
     (repeat (refine jt ⟨?_⟩; refine hS.st rfl rfl ?_; intro _ hS)); refine jt ⟨?_⟩
     refine Cl.mono (Srelist_spec hO (hS.part (L := L)) hG2 hva2 hv1.vec.cap (by omega) hn1 hn2 (by omega) hn3 hn4 hB hA) ?_
     rintro _ w4 ⟨rfl, L1, hO1, hS'⟩
     have hS := hS.call (L := L) hS'
     obtain ⟨hr1, l, hr2⟩ := relistM_fst s m nx
     generalize relistM s m nx = R at hO1 hMM hr1 hr2 ⊢
     obtain ⟨e1, s1, v1, m1⟩ := R
     simp only at hO1 hMM hr1 hr2 ⊢
     have hvv : VersV a1 c1 v1 Lv := ⟨by rw [hr1]; exact hv1.vec, by rw [hr1]; simp only; omega⟩
     unfold versC at hS ⊢
     (repeat (refine jt ⟨?_⟩; refine hS.st rfl rfl ?_; intro _ hS)); refine jt ⟨?_⟩
     exact ⟨(e1, s1, m1, v1), ⟨rfl, rfl, rfl, rfl, rfl, rfl, trivial⟩, hMM, by rw [hr2], hvv, L1, hO1, hS⟩
    ·simp only [hlong, if_false, hls] at hMM
     obtain ⟨bl, R, LF, -, -, hc10, -⟩ := hO.ls hls
     have hfg := hB.get g.name
     have hvv : VersV a1 c1 nx Lv := hv1
     (repeat (refine jt ⟨?_⟩; refine hS.st rfl rfl ?_; intro _ hS)); refine jt ⟨?_⟩
     refine ldAt (hc10 _ (hS.part (L := L))) ?_
     (repeat (refine jt ⟨?_⟩; refine hS.st rfl rfl ?_; intro _ hS)); refine jt ⟨?_⟩
     refine hS.al ?_
     intro b45 w4 _ hS
     (repeat (refine jt ⟨?_⟩; refine hS.st rfl rfl ?_; intro _ hS)); refine jt ⟨?_⟩
     obtain ⟨bl', hc', hcl⟩ := hO.lappend (hS.part (L := L)) hls (cap := 1) (ps := [editB e]) (hS.arr (b := b45) (nodup_chunk hS)) (by simp only [sumLen, kAh, kC, kCj, List.sum_nil, kAe, kAq]; omega) (by simp only [kAe, kAq]; omega) hB (by omega)
     obtain rfl : bl = bl' := by
      have h1 := hc10 _ (hS.part (L := L))
      rw [hc' _ (hS.part (L := L))] at h1
      simp only [Option.some.injEq, Value.pointer.injEq, Addr.mk.injEq, and_true] at h1
      exact h1.symm
     refine Cl.mono hcl ?_
     rintro _ w5 ⟨rfl, L1, hO1, hS'⟩
     have hS := (hS.call (L := L) hS').sub (kAb _ _)
     generalize appL m g [editB e] = R at hO1 hMM ⊢
     obtain ⟨e1, g1, m1⟩ := R
     simp only at hO1 hMM ⊢
     unfold versC at hS ⊢
     (repeat (refine jt ⟨?_⟩; refine hS.st rfl rfl ?_; intro _ hS)); refine jt ⟨?_⟩
     exact ⟨(e1, { s with list := some g1 }, m1, nx), ⟨rfl, rfl, rfl, rfl, rfl, rfl, trivial⟩, hMM, rfl, hvv, L1, hO1, hS⟩
   ·clear hS
    rintro ⟨e1, s1, m1, v1⟩ w4 ⟨hMM, htb, hvv, L1, hO1, hS⟩
    simp only at hMM htb hvv hO1 hS ⊢
    by_cases he1 : e1 = 0
    ·subst he1
     have hMM2 : ∀ made', editM s m e made' = (0, { s1 with v := v1, tabs := tabsWith s.tabs made' e.del }, m1) := fun made' => (hMM made').trans (if_neg (by simp))
     clear hMM
     obtain ⟨sq, es, c, hsq, ha, hc, Lh, hvh, a3, c3, La, hv3, lv, Ll, hl3, gv, Lg, hg, mb, Lm, hm, tm, et, ct, ks, ht, Lt, hts, LF, hF⟩ := hO1
     unfold versC at hS
     (repeat (refine jt ⟨?_⟩; refine hS.st rfl rfl ?_; intro _ hS)); refine jt ⟨?_⟩
     have hS := St.perm hS (mmIn _ _ _ _ _ _ Lv Lt1 _)
     refine Cl.mono (Copy_spec ht hmm (hS.part (L := [(tm, .map et ct), (mm, .map em cm)]))) ?_
     rintro _ w5 ⟨k1, et1, ct1, hkp, hM1, hS'⟩
     have hS := hS.call (L := [(tm, .map et ct), (mm, .map em cm)]) hS'
     (repeat (refine jt ⟨?_⟩; refine hS.st rfl rfl ?_; intro _ hS)); refine jt ⟨?_⟩
     refine SemW.loop (fun k : Nat => [(0, ptr sb), (61, .slice y e.del.length cy), (62, .int .i64 e.del.length), (63, .int .i64 k)])
      (fun k w' => k ≤ e.del.length ∧ ∃ et ct, MapC intV (fun b : Nat => ptr b) et ct (delNs (putAll ks k1) (e.del.take k)) ∧ St w T0 ((b7, _) :: (Lv ++ ((b4, _) :: (Lt1 ++ ((sb, _) :: (sq, .map es c) :: (tm, .map et ct) :: (mm, .map em cm) :: _))))) w') (fun k => e.del.length - k) 0
      ⟨rfl, rfl, rfl, rfl, trivial⟩ ⟨kAg _, et1, ct1, hM1, hS⟩ ?_
     clear hS hS' hM1
     rintro k w6 ⟨hk, et2, ct2, hM2, hS⟩
     by_cases hkl : k < e.del.length
     ·obtain ⟨gy, oy, rfl, -, -⟩ := hy.get (j := k) (by simpa using hkl)
      have hdk : (e.del.map intV)[k]? = some (intV e.del[k]) := by simp [hkl]
      have hsucc : e.del.take (k + 1) = e.del.take k ++ [e.del[k]] := kAn hkl
      generalize e.del[k] = n at hdk hsucc
      (repeat (refine jt ⟨?_⟩; refine hS.st rfl rfl ?_; intro _ hS)); refine jt ⟨?_⟩
      refine Arr.ldc (j := k) hS hy hdk (by omega) ?_
      (repeat (refine jt ⟨?_⟩; refine hS.st rfl rfl ?_; intro _ hS)); refine jt ⟨?_⟩
      refine St.mapDel tblOk KEnc.i64 rfl rfl und_int hS (k := n) hM2 ?_
      intro et3 ct3 w7 hM3 hS
      (repeat (refine jt ⟨?_⟩; refine hS.st rfl rfl ?_; intro _ hS)); refine jt ⟨?_⟩
      exact ⟨k + 1, ⟨rfl, rfl, rfl, rfl, trivial⟩, ⟨hkl, et3, ct3, by rw [hsucc, delNs_snoc]; exact hM3, hS⟩, by omega⟩
     ·have hke : k = e.del.length := by omega
      subst hke
      rw [kAr] at hM2
      obtain ⟨made', Lt', hmp, hmt', hltp⟩ := hmt.perm hkp
      obtain ⟨M', R', hpa, hpp⟩ := hts.putAll hmt'
      obtain ⟨M2, hdn, hms⟩ := hpa.delNs e.del
      have hM := hMM2 made'
      rw [htb] at hdn
      (repeat (refine jt ⟨?_⟩; refine hS.st rfl rfl ?_; intro _ hS)); refine jt ⟨?_⟩
      refine ⟨made', hmp, by rw [hM], _, by
       rw [hM]
       exact StO.mk (s := { s1 with v := v1, tabs := tabsWith s.tabs made' e.del }) sq es c hsq ha hc Lh hvh a1 c1 Lv hvv lv Ll hl3 gv Lg hg mb Lm hm tm et2 ct2 _ hM2 M2 hdn LF hF, ?_⟩
      have hs1 := hS.sub (.cons _ ((List.Sublist.refl Lv).append (.cons _ ((List.Sublist.refl Lt1).append (.cons_cons _ (.cons_cons _ (.cons_cons _ (.cons _ ((List.Sublist.refl Lh).append (kAj La _))))))))))
      have hs2 := St.perm hs1 (allIn _ _ _ Lv Lt1 Lh Ll Lg Lm Lt LF)
      have hP : (Lt1 ++ Lt).Perm (M' ++ R') := (hltp.symm.append_right Lt).trans hpp.symm
      have hs3 := St.perm hs2 (.cons _ (.cons _ (.cons _ (List.Perm.append_left Lh (List.Perm.append_left Lv (List.Perm.append_left Ll (List.Perm.append_left Lg (List.Perm.append_left Lm (List.Perm.append_right LF hP)))))))))
      exact hs3.sub (.cons_cons _ (.cons_cons _ (.cons_cons _ ((List.Sublist.refl Lh).append ((List.Sublist.refl Lv).append ((List.Sublist.refl Ll).append ((List.Sublist.refl Lg).append ((List.Sublist.refl Lm).append ((hms.trans (kBk M' R')).append (List.Sublist.refl LF))))))))))
    ·have hM := hMM made
     rw [if_pos he1] at hM
     (repeat (refine jt ⟨?_⟩; refine hS.st rfl rfl ?_; intro _ hS)); refine jt ⟨?_⟩
     refine ⟨made, .refl _, by rw [hM], L1, by rw [hM]; exact hO1, ?_⟩
     exact hS.sub (.cons _ (((kAj Lt1 L1).cons _ |>.cons _).trans (kAj Lv _)))
end Go.Proofs.YtkgibdhpijdbfaaGreatDoor
namespace Go.Proofs.YtkgibdhpijdbfaaGreatDoor
open Go Go.Eng Go.Proofs
structure FT (A T : Nat) (m : FSm) : Prop where
 fb : FB A m
 tx : ∀ x ∈ m.files, x.2.1.length ≤ T
theorem FT.mono {A B T U : Nat} {m : FSm} (h : FT A T m) (h1 : A ≤ B) (h2 : T ≤ U) : FT B U m := ⟨h.fb.mono h1, fun x hx => kBb (h.tx x hx) h2⟩
theorem FT.get {A T : Nat} {m : FSm} (h : FT A T m) (n : Bytes) : ((fget m n).getD ([], 0)).1.length ≤ T := by
 cases e : fget m n with
 |none => simp
 |some x => exact h.tx _ (kget_mem e)
theorem FT.find {A T : Nat} {m : FSm} (h : FT A T m) (n : Bytes) : (findM m n).1.1.length ≤ T := by
 have := h.get n
 unfold findM
 split
 ·simp
 ·cases e : fget m n with
  |none => simp
  |some x => rw [e] at this; exact this
theorem FT.put {A T : Nat} {m : FSm} (h : FT A T m) {n : Bytes} {x : Bytes × Nat} (hx : x.1.length ≤ T) : ∀ y ∈ kput n x m.files, y.2.1.length ≤ T := fun y hy => (kput_mem hy).elim (fun e => by rw [e]; exact hx) (h.tx y)
theorem FT.del {A T : Nat} {m : FSm} (h : FT A T m) (n : Bytes) : FT (A + 1) T (deleteM m n).2 := by
 refine ⟨h.fb.del n, ?_⟩
 unfold deleteM
 split
 ·exact h.tx
 ·simp only
  split
  ·exact h.tx
  ·exact fun y hy => h.tx y ((kdel_sub n _).mem hy)
theorem FT.app {A T : Nat} {m : FSm} (h : FT A T m) (n : Bytes) (ps : List Bytes) (hl : ((fget m n).getD ([], 0)).1.length + ps.flatten.length ≤ T) (hT : T ≤ 1099511627776) : FT (A + 1) T (appendM m n ps).2 := by
 refine ⟨h.fb.app n ps (by omega), ?_⟩
 unfold appendM
 split
 ·exact h.tx
 split
 ·exact h.tx
 split
 ·exact h.tx
 split
 ·exact h.tx
 ·exact h.put (by simpa using hl)
theorem FT.sync {A T : Nat} {m : FSm} (h : FT A T m) (n : Bytes) : FT (A + 1) T (syncM m n).2 := by
 refine ⟨h.fb.sync n, ?_⟩
 unfold syncM
 split
 ·exact h.tx
 simp only
 split
 ·exact h.tx
 ·exact h.put (h.find n)
theorem FT.ren {A T : Nat} {m : FSm} (h : FT A T m) (a b : Bytes) : FT (A + 1) T (renameM m a b).2 := by
 refine ⟨h.fb.ren a b, ?_⟩
 unfold renameM
 split
 ·exact h.tx
 split
 ·exact h.tx
 simp only
 split
 ·exact h.tx
 ·intro y hy
  rcases kput_mem hy with e | hy
  ·rw [e]; exact h.find a
  ·exact h.tx y ((kdel_sub a _).mem hy)
theorem FT.file {A T : Nat} {m : FSm} (h : FT A T m) (n t : Bytes) (ht : t.length ≤ T) (hT : T ≤ 1099511627776) : FT (A + 3) T (fileM m n t).2 := by
 unfold fileM
 split
 ·exact (h.del n).mono (by omega) (kAd _)
 rename_i hd
 have hg := del_gone (n := n) h.fb.nd (by omega)
 have ha := (h.del n).app n [t] (by rw [hg]; simpa using ht) hT
 split
 ·exact ha.mono (by omega) (kAd _)
 ·exact ha.sync n
theorem FT.rewrite {A T : Nat} {m : FSm} (h : FT A T m) (n : Bytes) (ps : List Bytes) (ht : (sealB ps).length ≤ T) (hT : T ≤ 1099511627776) : FT (A + 3) T (rewriteM m n ps).2 := by
 unfold rewriteM
 split
 ·exact h.file n _ ht hT
 ·exact h.mono (by omega) (kAd _)
theorem FT.appL {A T : Nat} {m : FSm} (h : FT A T m) (g : LogM) (ps : List Bytes) (hT : T + (sealB ps).length ≤ 1099511627776) : FT (A + 2) (T + (sealB ps).length) (Proofs.YtkgibdhpijdbfaaGreatDoor.appL m g ps).2.2 := by
 have h0 : FT A (T + (sealB ps).length) m := h.mono (kAd _) (Nat.le_add_right _ _)
 have h1 : FT (A + 1) (T + (sealB ps).length) (appendM m g.name [sealB ps]).2 := h0.app g.name [sealB ps] (by have := h.get g.name; simp; omega) hT
 have h2 := h1.sync g.name
 show FT (A + 2) _ (logAppM m g.name g.n g.torn g.dead ps).2.2
 unfold logAppM
 split
 ·exact h0.mono (by omega) (kAd _)
 split
 ·exact h0.mono (by omega) (kAd _)
 split
 ·exact h0.mono (by omega) (kAd _)
 split
 ·exact h0.mono (by omega) (kAd _)
 split
 ·exact h1.mono (by omega) (kAd _)
 ·exact h2
theorem FT.relist {A T : Nat} {m : FSm} (h : FT A T m) (s : StM) (v : VM) (hs : (sealB (editsB { v with next := v.next + 1 })).length ≤ T) (hn : (lName v.next).length ≤ T) (hT : T ≤ 1099511627776) : FT (A + 7) T (relistM s m v).2.2.2 := by
 have h1 := h.rewrite (lName v.next) (editsB { v with next := v.next + 1 }) hs hT
 have h2 := h1.file newN (lName v.next) hn hT
 have h3 := h2.ren newN curN
 unfold relistM
 simp only
 split
 ·exact h1.mono (by omega) (kAd _)
 split
 ·exact h2.mono (by omega) (kAd _)
 split
 ·exact h3
 split
 ·exact h3
 ·exact h3
theorem FT.edit {A T : Nat} {m : FSm} (h : FT A T m) (s : StM) (x : EM) (mk : List (Int × List EntM)) (hs : ∀ nx, applyM s.v x = some nx → (sealB (editsB { nx with next := nx.next + 1 })).length ≤ T ∧ (lName nx.next).length ≤ T) (hT : T + 65544 ≤ 1099511627776) : FT (A + 7) (T + 65544) (editM s m x mk).2.2 := by
 unfold editM
 cases e : applyM s.v x with
 |none => exact h.mono (by omega) (by omega)
 |some nx =>
  obtain ⟨h1, h2⟩ := hs nx e
  simp only
  split
  ·have := h.relist s nx h1 h2 (by omega)
   split <;> exact this.mono (by omega) (by omega)
  ·rename_i hl
   cases s.list with
   |none => exact h.mono (by omega) (by omega)
   |some g =>
    simp only
    have hsl : (sealB [editB x]).length ≤ 65544 := by rw [sealB_len]; simp [sumLen]; omega
    have := h.appL g [editB x] (by omega)
    split <;> exact this.mono (by omega) (by omega)
theorem FT.lay {T : Nat} (hT : 1048576 ≤ T ∧ T ≤ 1099511627776) : ∀ (cs : List (List EntM)) {A : Nat} {m : FSm} (n : Int), FT A T m → (∀ c ∈ cs, TabF c) → FT (A + 3 * cs.length) T (layM m n cs).2
 |[], A, m, n, h, _ => h
 |c :: cs, A, m, n, h, hc => by
  have ht := (hc c kAt).bytes
  have h1 := h.file (tName n) (tableB c) (by omega) hT.2
  unfold layM
  split
  ·exact h1.mono (by rw [kAe]; omega) (kAd _)
  ·have := FT.lay hT cs (n + 1) h1 (fun d hd => hc d (kAs _ hd))
   rw [kAe]
   exact this.mono (by omega) (kAd _)
theorem FT.delAll {T : Nat} : ∀ (ns : List Bytes) {A : Nat} {m : FSm}, FT A T m → FT (A + ns.length) T (Proofs.YtkgibdhpijdbfaaGreatDoor.delAll ns m).2
 |[], A, m, h => h
 |n :: ns, A, m, h => by
  unfold Proofs.YtkgibdhpijdbfaaGreatDoor.delAll
  split
  ·exact (h.del n).mono (by rw [kAe]; omega) (kAd _)
  ·have := FT.delAll ns (h.del n)
   rw [kAe]
   exact this.mono (by omega) (kAd _)
end Go.Proofs.YtkgibdhpijdbfaaGreatDoor
namespace Go.Proofs.YtkgibdhpijdbfaaGreatDoor
open Go Go.Eng Go.Proofs Go.Srt
theorem i64ok_of {z : Int} (h : 0 ≤ z ∧ z ≤ 4611686018427387904) : i64ok z := by unfold i64ok; omega
theorem okAdd_iff {f : FileM} : okAdd f = true ↔ 1 ≤ f.2 ∧ 0 ≤ f.1 ∧ f.1 ≤ 1 := by
 unfold okAdd
 simp only [Bool.not_eq_true', Bool.or_eq_false_iff, decide_eq_false_iff_not]
 omega
theorem editB_len {e : EM} (ho : OkE e) (hl : e.add.length < 1099511627776) (hd : e.del = []) : (editB e).length ≤ 50 + 20 * e.add.length := by
 have h1 := numB_len' (n := e.add.length) (by omega)
 have h2 := filesB_len e.add ho.add
 have h3 := numB_len' (n := 0) (by omega)
 have h4 := intB_len11 _ ho.wal
 have h5 := intB_len11 _ ho.next
 have h6 := intB_len11 _ ho.seq
 unfold editB
 rw [hd]
 simp only [kAa, kAq, intsB, kC, kCc]
 omega
theorem editsB_sum {v : VM} (ho : OkE (wholeE v)) (hl : v.files.length ≤ 8388608) : sumLen (editsB v) + 8 * (editsB v).length ≤ 268435456 := by
 have h1 : ∀ p ∈ editsB v, p.length ≤ 40050 := by
  intro p hp
  obtain ⟨e, he, rfl⟩ := kAm.1 hp
  obtain ⟨i, -, rfl⟩ := kAm.1 he
  have hpl : (editP v i).add.length ≤ 2000 := by
   show ((v.files.drop (i * 2000)).take 2000).length ≤ 2000
   rw [kAo]; omega
  have := editB_len (ok_part ho i) (by omega) rfl
  omega
 have h2 := sumLen_le 40050 (editsB v) h1
 rw [editsB_len] at h2 ⊢
 have h3 : editN v ≤ 4196 := by unfold editN; omega
 have h4 : 40050 * editN v ≤ 40050 * 4196 := Nat.mul_le_mul_left _ h3
 omega
structure GoodV (v : VM) : Prop where
 good : Good v
 num : v.files.length ≤ 8388608
 wal : v.wal ≤ 2305843009213693952
 next : v.next ≤ 2305843009213693952
 seq : v.seq ≤ 2305843009213693952
theorem GoodV.whole {v : VM} (h : GoodV v) : rightE (wholeE v) = true ∧ OkE (wholeE v) := by
 obtain ⟨h1, h2, -⟩ := h.good
 have hn := h.next
 have hw := h.wal
 have hs := h.seq
 refine ⟨?_, fun f hf => ?_, fun n hn => (by cases hn), i64ok_of ⟨h2.1, by show v.wal ≤ _; omega⟩, i64ok_of ⟨h2.2.1, by show v.next ≤ _; omega⟩, i64ok_of ⟨h2.2.2, by show v.seq ≤ _; omega⟩⟩
 ·unfold rightE
  simp only [Bool.and_eq_true, kBd]
  exact ⟨⟨fun f hf => (h1.1 f hf).1, fun n hn => (by cases hn)⟩, decide_eq_true h2⟩
 ·obtain ⟨h3, h4⟩ := h1.1 f hf
  have h5 := okAdd_iff.1 h3
  exact ⟨i64ok_of (by omega), i64ok_of (by omega)⟩
theorem GoodV.succ {v : VM} (h : GoodV v) (hn : v.next + 1 ≤ 2305843009213693952) : GoodV { v with next := v.next + 1 } :=
 ⟨⟨⟨fun f hf => ⟨(h.good.files.1 f hf).1, by have := (h.good.files.1 f hf).2; simp only; omega⟩, h.good.files.2⟩, ⟨h.good.nn.1, by have := h.good.nn.2.1; simp only; omega, h.good.nn.2.2⟩, by have h2 : sortF v.files = v.files := congrArg VM.files h.good.so; unfold sortV; rw [h2]⟩, h.num, h.wal, hn, h.seq⟩
theorem GoodV.next_fine {v : VM} (h : GoodV v) (hn : v.next + 1 ≤ 2305843009213693952) : rightE (wholeE { v with next := v.next + 1 }) = true ∧ OkE (wholeE { v with next := v.next + 1 }) ∧ (sumLen (editsB { v with next := v.next + 1 }) + 8 * (editsB { v with next := v.next + 1 }).length ≤ 268435456) ∧ 0 ≤ v.next ∧ v.next ≤ 2305843009213693952 :=
 have h2 := h.succ hn
 ⟨h2.whole.1, h2.whole.2, editsB_sum h2.whole.2 h.num, h.good.nn.2.1, h.next⟩
theorem StO.memP {sb f : Nat} {s : StM} {m : FSm} {L : Heap} (hO : StO sb f s m L) : ∃ mb Lm, MemT mb s.mem s.adds Lm ∧ (∀ w, Holds L w → w.cell? ⟨sb, 12, none⟩ = some (ptr mb) ∧ Holds Lm w) ∧ ∀ w w', Holds L w → St w (keys Lm) Lm w' → St w (keys L) L w' := by
 obtain ⟨sq, es, c, hsq, ha, hc, Lh, hvh, a, ca, La, hv, lv, Ll, hl, gv, Lg, hg, mb, Lm, hm, tm, et, ct, ks, ht, Lt, hts, LF, hF⟩ := hO
 exact ⟨mb, Lm, hm, fun w hw => ⟨(St.enter hw).cell (b := sb) (off := 12) rfl, (St.enter hw).part (L := Lm)⟩, fun w w' hw h => (St.enter hw).call (L := Lm) h⟩
theorem filesOf_len (lev : Int) (l : List (Int × List EntM)) : (filesOf lev l).length = l.length := by simp [filesOf]
theorem numsFrom_len {α : Type} : ∀ (cs : List α) (n : Int), (numsFrom n cs).length = cs.length
 |[], _ => rfl
 |c :: cs, n => by rw [numsFrom, kAe, kAe, numsFrom_len cs]
theorem layIn (p q : Nat × Obj) (R X Y Z : Heap) : (p :: (R ++ (q :: (X ++ (Y ++ Z))))).Perm (q :: (X ++ (Y ++ (p :: (R ++ Z))))) := by
 classical
 refine kDf.2 fun a => ?_
 simp only [kCl, kDa]
 omega
theorem StO.lay {w : World} {sb f A : Nat} {s : StM} {m : FSm} {L : Heap} (hO : StO sb f s m L) (hh : Holds L w) (hG : Glob w (keys L)) (lev n : Int) (hn : 0 ≤ n ∧ n ≤ 2305843009213693952)
  {a : Option Addr} {c : Nat} {es : List EntM} (ha : Arr w (keys L) a (es.flatMap entC)) (hc : es.length ≤ c) (hes : es.length ≤ 8388608) (hp : ∀ p ∈ pieces 64 es, TabF p) (hB : FB A m) (hA : A + 3 * es.length ≤ 4611686018427387904) :
  Cl Tryz.prog f_store_Store_lay [ptr sb, .int .i64 lev, .int .i64 n, .slice a es.length c] w fun v w' => ((layM m n (pieces 64 es)).1 ≠ 0 ∧ v = .tuple ⟨[.slice none 0 0, .map none, .int .i64 (layM m n (pieces 64 es)).1]⟩ ∧ ∃ L', StO sb f s (layM m n (pieces 64 es)).2 L' ∧ St w (keys L) L' w') ∨
   ((layM m n (pieces 64 es)).1 = 0 ∧ ∃ a2 c2 Lf tm et ct ks Lt L', v = .tuple ⟨[.slice a2 (filesOf lev (numsFrom n (pieces 64 es))).length c2, .map (some tm), .int .i64 0]⟩ ∧ Vec T_api_File 2 a2 (filesOf lev (numsFrom n (pieces 64 es))).length c2 ((filesOf lev (numsFrom n (pieces 64 es))).flatMap fileC) Lf ∧
    MapC intV (fun b : Nat => ptr b) et ct ks ∧ TabsO ks (numsFrom n (pieces 64 es)) Lt ∧ StO sb f s (layM m n (pieces 64 es)).2 L' ∧ St w (keys L) ((tm, .map et ct) :: (Lf ++ (Lt ++ L'))) w') := by
 have hc2 := hO.fC hh
 obtain ⟨o, R, LF, rfl, hF, hm⟩ := hO.fs
 have hS := St.enter hh
 have hsub : ∀ b, b ∈ keys LF → b ∈ keys ((sb, o) :: (R ++ LF)) := fun b hb => by
  simp only [keys, kAh, kAi, kAf, kAl]; exact .inr (.inr hb)
 rw [filesOf_len, numsFrom_len]
 refine (Slay_spec hF (hS.part (L := LF)) hc2 (nodup_chunk hS) (hG.sub hsub) lev n hn (ha.sub hsub) hc hes hp hB hA).mono ?_
 rintro v w' (⟨h1, h2, L1, hF1, hS'⟩ | ⟨h1, a2, c2, Lf, tm, et, ct, ks, Lt, L1, h2, h3, h4, h5, hF1, hS'⟩)
 ·exact .inl ⟨h1, h2, _, hm _ _ hF1, hS.call (L := LF) hS'⟩
 ·exact .inr ⟨h1, a2, c2, Lf, tm, et, ct, ks, Lt, _, h2, h3, h4, h5, hm _ _ hF1, St.perm (hS.call (L := LF) hS') (layIn _ _ _ _ _ _)⟩
structure MemF (l : List EntM) : Prop where
 rise : Rise l
 fine : FineE l
 seqs : SeqsE l
 sz : ∀ x ∈ l, szE x ≤ 4096
 num : l.length ≤ 4194304
theorem MemF.tab {l : List EntM} (h : MemF l) : ∀ p ∈ pieces 64 l, TabF p := by
 intro p hp
 obtain ⟨_, h2, a, b, e⟩ := pieces_mem (show 0 < 64 by omega) hp
 have hs : p.Sublist l := by rw [e]; exact ((kAj a p).trans (by simp))
 exact ⟨h2, h.rise.sublist hs, fun x hx => h.fine x (hs.mem hx), fun x hx => h.seqs x (hs.mem hx), fun x hx => h.sz x (hs.mem hx)⟩
theorem pieces_cnt {α : Type} (n : Nat) (l : List α) (hn : 0 < n) : (pieces n l).length ≤ l.length := by
 rw [pieces_len]
 rcases kCz l.length with h | h
 ·rw [h]; exact Nat.le_of_eq (Nat.div_eq_of_lt (by omega))
 ·refine Nat.div_le_of_le_mul ?_
  have : l.length * 1 ≤ l.length * n := Nat.mul_le_mul_left _ hn
  have h2 : n ≤ l.length * n := Nat.le_mul_of_pos_left _ h
  rw [kCk n]
  rcases Nat.lt_or_ge 1 l.length with h3 | h3
  ·have : 2 * n ≤ l.length * n := kDn _ h3
   have : l.length + n - 1 ≤ l.length * n := by
    have h4 : (l.length - 1) * (n - 1) ≥ 0 := kAg _
    have h5 : l.length * n = (l.length - 1) * (n - 1) + l.length + n - 1 := by
     obtain ⟨a, ha⟩ : ∃ a, l.length = a + 1 := ⟨l.length - 1, by omega⟩
     obtain ⟨b, hb⟩ : ∃ b, n = b + 1 := ⟨n - 1, by omega⟩
     rw [ha, hb]; simp only [Nat.add_sub_cancel]; rw [Nat.mul_succ, Nat.succ_mul]; omega
    omega
   exact this
  ·have : l.length = 1 := by omega
   rw [this]; omega
structure SWr (A T : Nat) (s : StM) (m : FSm) : Prop where
 mem : MemF s.mem
 gv : GoodV s.v
 vnum : s.v.files.length ≤ 2097152
 next : s.v.next ≤ 1152921504606846976
 seq : 0 ≤ s.seq ∧ s.seq ≤ 1152921504606846976
 list : ∃ g, s.list = some g ∧ g.n ≤ 2305843009213693952
 ft : FT A T m
 acts : A ≤ 2305843009213693952
 lo : 536870912 ≤ T
 hi : T + 1048576 ≤ 1099511627776
 hts : s.hts.length ≤ 1099511627776
theorem editM_fst (s : StM) (m : FSm) (x : EM) (mk : List (Int × List EntM)) : ∃ l v t, (editM s m x mk).2.1 = { s with list := l, v := v, tabs := t } := by
 unfold editM
 cases applyM s.v x with
 |none => exact ⟨s.list, s.v, s.tabs, rfl⟩
 |some nx =>
  simp only
  split
  ·obtain ⟨-, l, h⟩ := relistM_fst s m nx
   split
   ·exact ⟨l, s.v, s.tabs, h⟩
   ·exact ⟨l, (relistM s m nx).2.2.1, tabsWith s.tabs mk x.del, by simp only [h]⟩
  ·split
   ·exact ⟨s.list, s.v, s.tabs, rfl⟩
   ·split
    ·exact ⟨_, s.v, s.tabs, rfl⟩
    ·exact ⟨_, _, _, rfl⟩
theorem applyM_num {v nx : VM} {e : EM} (h : applyM v e = some nx) : nx.wal = e.wal ∧ nx.next = e.next ∧ nx.seq = e.seq := by
 unfold applyM at h
 split at h
 ·cases ha : addAll e.next (keepF e v.files) e.add with
  |none => rw [ha] at h; cases h
  |some fs => rw [ha] at h; cases h; exact ⟨rfl, rfl, rfl⟩
 ·cases h
theorem filesOf_mem (lev : Int) (cs : List (List EntM)) (n : Int) : ∀ f ∈ filesOf lev (numsFrom n cs), f.1 = lev ∧ n ≤ f.2 ∧ f.2 < n + cs.length := by
 intro f hf
 obtain ⟨x, hx, rfl⟩ := kAm.1 hf
 exact ⟨rfl, (numsFrom_keys cs n x.1).1 (kAw hx)⟩
theorem edit_fine {v : VM} (hv : GoodV v) {e : EM} (hl : v.files.length + e.add.length ≤ 8388608) (hw : e.wal ≤ 2305843009213693952) (hn : e.next ≤ 2305843009213693951) (hs : e.seq ≤ 2305843009213693952) : ∀ nx, applyM v e = some nx → GoodV nx ∧ nx.next + 1 ≤ 2305843009213693952 := by
 intro nx h
 obtain ⟨h1, h2, h3⟩ := applyM_num h
 have h4 := applyM_len h
 exact ⟨⟨hv.good.step h, by omega, by omega, by omega, by omega⟩, by omega⟩
theorem names_len {n : Int} (h : i64r n) : (tName n).length ≤ 22 ∧ (wName n).length ≤ 22 ∧ (lName n).length ≤ 22 := by
 have := itoa_short h
 unfold tName wName lName
 simp only [kAe]; omega
end Go.Proofs.YtkgibdhpijdbfaaGreatDoor
