/- The contracts on slices.Sorted(maps.Keys(m)) at this dump, by the kit's tools lay-iter and lay-plain. -/
import Derived.Shelf.SlIter.Nil
import Derived.Shelf.SortM.Plain
import Derived.Shelf.SortM.SortNone
import Derived.Ground.GgzProg
import Derived.Ground.SlgmProg
import Derived.Test.YtnmmiiffeenjbaaProg
import Derived.Test.YtnmmiiffeenjbaaTbl
namespace Go.Proofs
open Go.Shelf
def Try.keys45_ren : Go.Shelf.Ren := ⟨fun | 7 => 45 | 10 => 51 | n => n, fun | 23 => 41 | 26 => 9 | 3 => 70 | 28 => 97 | 0 => 0 | 27 => 96 | 33 => 75 | 4 => 4 | n => n, fun | n => n⟩
theorem Try.keys45 : Go.Proofs.SlLaysZ.n7 Try.prog Try.keys45_ren := {
  mixed := by kernel_rfl
  f7 := ⟨Try.f45.name, by decide, Try.func45.trans (congrArg some (by kernel_rfl))⟩
  f10 := ⟨Try.f51.name, by decide, Try.func51.trans (congrArg some (by kernel_rfl))⟩
  t0 := Try.underlying0
  a0 := Try.isAgg0
  z0 := Try.sizeOf0
  v0 := Try.zeroValue0
  t4 := Try.underlying4
  a4 := Try.isAgg4
  z4 := Try.sizeOf4
  v4 := Try.zeroValue4
  t23 := Try.underlying41
  a23 := Try.isAgg41
  z23 := Try.sizeOf41
  v23 := Try.zeroValue41
  t26 := Try.underlying9
  a26 := Try.isAgg9
  z26 := Try.sizeOf9
  v26 := Try.zeroValue9
  t27 := Try.underlying96
  a27 := Try.isAgg96
  z27 := Try.sizeOf96
  v27 := Try.zeroValue96
  t28 := Try.underlying97
  a28 := Try.isAgg97
  z28 := Try.sizeOf97
  v28 := Try.zeroValue97
  t33 := Try.underlying75
  a33 := Try.isAgg75
  z33 := Try.sizeOf75
  v33 := Try.zeroValue75 }
def Try.sorted44_ren : Go.Shelf.Ren := ⟨fun | 6 => 44 | 8 => 49 | 9 => 50 | 11 => 54 | 13 => 56 | 12 => 55 | 23 => 66 | 24 => 67 | 14 => 57 | 15 => 58 | 16 => 59 | 17 => 60 | 18 => 61 | 19 => 62 | 20 => 63 | 21 => 64 | 22 => 65 | 25 => 68 | 26 => 69 | 27 => 70 | 28 => 71 | 29 => 72 | 30 => 73 | 31 => 74 | n => n, fun | 26 => 9 | 28 => 97 | 24 => 22 | 0 => 0 | 3 => 3 | 37 => 52 | 48 => 86 | 50 => 119 | 4 => 4 | 40 => 110 | 39 => 109 | 45 => 115 | 5 => 5 | 9 => 9 | 51 => 120 | 55 => 124 | 57 => 126 | 58 => 127 | 33 => 75 | n => n, fun | n => n⟩
theorem Try.sorted44 : Go.Proofs.SlLaysZ.n6 Try.prog Try.sorted44_ren := {
  mixed := by kernel_rfl
  f6 := ⟨Try.f44.name, by decide, Try.func44.trans (congrArg some (by kernel_rfl))⟩
  f8 := ⟨Try.f49.name, by decide, Try.func49.trans (congrArg some (by kernel_rfl))⟩
  f11 := ⟨Try.f54.name, by decide, Try.func54.trans (congrArg some (by kernel_rfl))⟩
  t0 := Try.underlying0
  a0 := Try.isAgg0
  z0 := Try.sizeOf0
  v0 := Try.zeroValue0
  t24 := Try.underlying22
  a24 := Try.isAgg22
  z24 := Try.sizeOf22
  v24 := Try.zeroValue22
  t26 := Try.underlying9
  a26 := Try.isAgg9
  z26 := Try.sizeOf9
  v26 := Try.zeroValue9
  t28 := Try.underlying97
  a28 := Try.isAgg97
  z28 := Try.sizeOf97
  v28 := Try.zeroValue97
  i26 := by kernel_rfl }
def Try.sort50_ren : Go.Shelf.Ren := ⟨fun | 6 => 50 | 8 => 56 | 9 => 55 | 19 => 66 | 20 => 67 | 21 => 57 | 22 => 58 | 23 => 59 | 24 => 60 | 25 => 61 | 26 => 62 | 27 => 63 | 28 => 64 | 29 => 65 | 36 => 68 | 31 => 69 | 32 => 70 | 37 => 71 | 38 => 72 | 39 => 73 | 41 => 74 | n => n, fun | 27 => 22 | 29 => 9 | 3 => 3 | 32 => 52 | 26 => 22 | 0 => 0 | 44 => 86 | 46 => 119 | 4 => 4 | 36 => 110 | 35 => 109 | 41 => 115 | 5 => 5 | 9 => 9 | 53 => 120 | 57 => 124 | 63 => 126 | 64 => 127 | n => n, fun | n => n⟩
theorem Try.sort50 : Go.Proofs.SlLaysM.n6 Try.prog Try.sort50_ren := {
  mixed := by kernel_rfl
  f6 := ⟨Try.f50.name, by decide, Try.func50.trans (congrArg some (by kernel_rfl))⟩
  f8 := Try.func56.trans (congrArg some (by kernel_rfl))
  f9 := ⟨Try.f55.name, by decide, Try.func55.trans (congrArg some (by kernel_rfl))⟩
  f19 := Try.func66.trans (congrArg some (by kernel_rfl))
  f20 := Try.func67.trans (congrArg some (by kernel_rfl))
  f21 := ⟨Try.f57.name, by decide, Try.func57.trans (congrArg some (by kernel_rfl))⟩
  f22 := ⟨Try.f58.name, by decide, Try.func58.trans (congrArg some (by kernel_rfl))⟩
  f23 := ⟨Try.f59.name, by decide, Try.func59.trans (congrArg some (by kernel_rfl))⟩
  f24 := ⟨Try.f60.name, by decide, Try.func60.trans (congrArg some (by kernel_rfl))⟩
  f25 := ⟨Try.f61.name, by decide, Try.func61.trans (congrArg some (by kernel_rfl))⟩
  f26 := ⟨Try.f62.name, by decide, Try.func62.trans (congrArg some (by kernel_rfl))⟩
  f27 := ⟨Try.f63.name, by decide, Try.func63.trans (congrArg some (by kernel_rfl))⟩
  f28 := ⟨Try.f64.name, by decide, Try.func64.trans (congrArg some (by kernel_rfl))⟩
  f29 := ⟨Try.f65.name, by decide, Try.func65.trans (congrArg some (by kernel_rfl))⟩
  f31 := Try.func69.trans (congrArg some (by kernel_rfl))
  f32 := Try.func70.trans (congrArg some (by kernel_rfl))
  f36 := ⟨Try.f68.name, by decide, Try.func68.trans (congrArg some (by kernel_rfl))⟩
  f37 := ⟨Try.f71.name, by decide, Try.func71.trans (congrArg some (by kernel_rfl))⟩
  f38 := ⟨Try.f72.name, by decide, Try.func72.trans (congrArg some (by kernel_rfl))⟩
  f39 := ⟨Try.f73.name, by decide, Try.func73.trans (congrArg some (by kernel_rfl))⟩
  f41 := ⟨Try.f74.name, by decide, Try.func74.trans (congrArg some (by kernel_rfl))⟩
  t0 := Try.underlying0
  a0 := Try.isAgg0
  z0 := Try.sizeOf0
  v0 := Try.zeroValue0
  t3 := Try.underlying3
  a3 := Try.isAgg3
  z3 := Try.sizeOf3
  v3 := Try.zeroValue3
  t4 := Try.underlying4
  a4 := Try.isAgg4
  z4 := Try.sizeOf4
  v4 := Try.zeroValue4
  t5 := Try.underlying5
  a5 := Try.isAgg5
  z5 := Try.sizeOf5
  v5 := Try.zeroValue5
  t9 := Try.underlying9
  a9 := Try.isAgg9
  z9 := Try.sizeOf9
  v9 := Try.zeroValue9
  t26 := Try.underlying22
  a26 := Try.isAgg22
  z26 := Try.sizeOf22
  v26 := Try.zeroValue22
  t27 := Try.underlying22
  a27 := Try.isAgg22
  z27 := Try.sizeOf22
  v27 := Try.zeroValue22
  t29 := Try.underlying9
  a29 := Try.isAgg9
  z29 := Try.sizeOf9
  v29 := Try.zeroValue9
  t32 := Try.underlying52
  a32 := Try.isAgg52
  z32 := Try.sizeOf52
  v32 := Try.zeroValue52
  t35 := Try.underlying109
  a35 := Try.isAgg109
  z35 := Try.sizeOf109
  v35 := Try.zeroValue109
  t36 := Try.underlying110
  a36 := Try.isAgg110
  z36 := Try.sizeOf110
  v36 := Try.zeroValue110
  t41 := Try.underlying115
  a41 := Try.isAgg115
  z41 := Try.sizeOf115
  v41 := Try.zeroValue115
  t44 := Try.underlying86
  a44 := Try.isAgg86
  z44 := Try.sizeOf86
  v44 := Try.zeroValue86
  t46 := Try.underlying119
  a46 := Try.isAgg119
  z46 := Try.sizeOf119
  v46 := Try.zeroValue119
  t53 := Try.underlying120
  a53 := Try.isAgg120
  z53 := Try.sizeOf120
  v53 := Try.zeroValue120
  t57 := Try.underlying124
  a57 := Try.isAgg124
  z57 := Try.sizeOf124
  v57 := Try.zeroValue124
  t63 := Try.underlying126
  a63 := Try.isAgg126
  z63 := Try.sizeOf126
  v63 := Try.zeroValue126
  t64 := Try.underlying127
  a64 := Try.isAgg127
  z64 := Try.sizeOf127
  v64 := Try.zeroValue127 }
open Go.RowKit Go.Maps Go.Sort


/-- slices.Sort's two contracts at this dump, at the fence that asks nothing. -/
theorem Try.sorts44 (m : Nat) : AnyZ.SortsIn Try.prog Try.sorted44_ren Fence.wide m :=
  ⟨fun blk off cap ss W hH hblk hsz => callsIn_wide.2 (AnyM.slices_Sort_string Try.sort50 blk off cap ss W hH hblk hsz),
   fun p cap W => callsIn_wide.2 (AnyM.slices_Sort_string_none Try.sort50 p cap W)⟩

/-- **maps.Keys[map[string]tarmac/vfs.file,string,tarmac/vfs.file], at whatever map, the nil one too:** a function value over ONE NEW BLOCK, which holds the map. -/
theorem Try.mapsKeys (mb : Option Nat) (W : World) : CallsIn Fence.wide 5 Try.prog 45 #[.map mb] W fun e w' => e = .returned (.func (.func 51) #[] #[.pointer (some ⟨W.heap.size, 0, none⟩)]) ∧ w' = W.alloc (.cells #[.map mb] 41) :=
  AnyZ.keys_in Try.keys45 Fence.wide 5 trivial rfl mb W

set_option maxHeartbeats 1000000 in
/-- **slices.Sorted[string] AT WHAT maps.Keys[map[string]tarmac/vfs.file,string,tarmac/vfs.file] HANDED BACK FOR A MAP THAT IS NOT nil** ('w': the world AHEAD of maps.Keys' call): A NEW SLICE THAT HOLDS THE MAP's KEYS, SORTED; nil just where it has none; nothing that lay before has turned. -/
theorem Try.sortedKeys {H : Type} (b nn : Nat) (D0 : DataW H) (R : Value → Option (DataW H × List MemPlace)) (w : World) (hown : w.ownsMap Try.prog 9 R b nn D0) (hmax : Maps.size D0 ≤ maxLen) (hbytes : Maps.size D0 * 16 ≤ 140737488355328) :
    CallsIn Fence.wide 5 Try.prog 44 #[.func (.func 51) #[] #[.pointer (some ⟨w.heap.size, 0, none⟩)]] (w.alloc (.cells #[.map (some b)] 41)) fun e w' => ∃ (v : Value) (ss : List (List UInt8)), e = .returned v ∧ ss.Perm (strKeys D0) ∧
      w'.ownsRow (w.alloc (.cells #[.map (some b)] 41)).heap.size 9 1 v ss.length ((ss.mergeSort (fun x y => decide (x ≤ y))).map encStr) ∧ (v = .slice none 0 0 ↔ ss = []) ∧ Below (w.alloc (.cells #[.map (some b)] 41)).heap.size (w.alloc (.cells #[.map (some b)] 41)) w' := by
  have hbl := hown.lt
  have hseq : SeqGives Fence.wide 2 Try.prog 51 #[.pointer (some ⟨w.heap.size, 0, none⟩)] encStr (fun ss => ss.Perm (strKeys D0)) (Maps.size D0) (w.alloc (.cells #[.map (some b)] 41)) :=
    AnyZ.keys_gives (ρ := Try.keys45_ren) { Try.keys45 with } Fence.wide _ trivial rfl (by omega) w.heap.size b nn D0 _ (by simp) (by simp) (by
      obtain ⟨es, clock, hb, Ft, hs, hD⟩ := hown
      exact ⟨es, clock, (Below.heap_alloc _ _ b hbl).trans hb, Ft, hs, hD⟩)
  exact AnyZ.sorted_in Try.sorted44 Fence.wide 5 trivial trivial trivial trivial rfl (by omega) (Try.sorts44 _) (enters_of Try.func50 (by kernel_rfl) rfl) 51 #[.pointer (some ⟨w.heap.size, 0, none⟩)] trivial (enters_of Try.func51 (by kernel_rfl) rfl) _ _ hmax hbytes _ hseq

set_option maxHeartbeats 1000000 in
/-- **.. AND FOR THE nil MAP: nil.** -/
theorem Try.sortedKeysNil (w : World) :
    CallsIn Fence.wide 5 Try.prog 44 #[.func (.func 51) #[] #[.pointer (some ⟨w.heap.size, 0, none⟩)]] (w.alloc (.cells #[.map none] 41)) fun e w' => ∃ (v : Value) (ss : List (List UInt8)), e = .returned v ∧ ss = [] ∧
      w'.ownsRow (w.alloc (.cells #[.map none] 41)).heap.size 9 1 v ss.length ((ss.mergeSort (fun x y => decide (x ≤ y))).map encStr) ∧ (v = .slice none 0 0 ↔ ss = []) ∧ Below (w.alloc (.cells #[.map none] 41)).heap.size (w.alloc (.cells #[.map none] 41)) w' := by
  have hseq : SeqGives Fence.wide 2 Try.prog 51 #[.pointer (some ⟨w.heap.size, 0, none⟩)] encStr (fun ss : List (List UInt8) => ss = []) 0 (w.alloc (.cells #[.map none] 41)) :=
    AnyZ.keys_gives_nil (ρ := Try.keys45_ren) { Try.keys45 with } Fence.wide _ trivial rfl w.heap.size _ (by simp) (by simp)
  exact AnyZ.sorted_in Try.sorted44 Fence.wide 5 trivial trivial trivial trivial rfl (by omega) (Try.sorts44 _) (enters_of Try.func50 (by kernel_rfl) rfl) 51 #[.pointer (some ⟨w.heap.size, 0, none⟩)] trivial (enters_of Try.func51 (by kernel_rfl) rfl) _ 0 (Nat.zero_le _) (by omega) _ hseq



theorem Try.callKeys : ∀ (args : Array Value) (w : World), (callFunc 45 args).run Try.prog w = .ok (.enter 45 args) w := Try.call45
theorem Try.callSorted : ∀ (args : Array Value) (w : World), (callFunc 44 args).run Try.prog w = .ok (.enter 44 args) w := Try.call44
end Go.Proofs
