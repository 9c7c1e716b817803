/- Texts of this claim, one behind the other. -/
import Derived.Test.YtinkmidjbdnibaaGreatDoorProg
import Derived.Test.YtinkmidjbdnibaaGreatDoorZ0
import Derived.Test.YtinkmidjbdnibaaGreatDoorRows
import Derived.WalkKit
import Derived.ProofKit
import Derived.OpenShut
import Derived.Carry
import Derived.SliceStrings
import Derived.JoinedCond
import Derived.Deep.Slices
import Derived.Laws.IdiomStrings
import Derived.Shelf.Strconv.AtoiAll
import Derived.Lib.AtoiErrMem
import Derived.Ground.NamesProg
import Derived.WideLaws
namespace Go.Proofs.YtinkmidjbdnibaaGreatDoor
open Go Go.Eng Go.Proofs
def tbl : Tbl := [
  (2, ⟨.int .i64, 1, 8, .int .i64 0⟩),
  (3, ⟨.int .i64, 1, 8, .int .i64 0⟩),
  (4, ⟨.bool, 1, 1, .bool false⟩),
  (5, ⟨.int .u8, 1, 1, .int .u8 0⟩),
  (9, ⟨.str, 1, 16, .string ⟨⟨[]⟩⟩⟩),
  (21, ⟨.int .i32, 1, 4, .int .i32 0⟩),
  (22, ⟨.slice 25 3, 1, 24, .slice none 0 0⟩),
  (25, ⟨.struct [(0, 1), (1, 1), (2, 1)], 3, 40, .agg ⟨[.string ⟨⟨[]⟩⟩, .bool false, .string ⟨⟨[]⟩⟩]⟩⟩),
  (26, ⟨.slice 54 2, 1, 24, .slice none 0 0⟩),
  (27, ⟨.slice 40 8, 1, 24, .slice none 0 0⟩),
  (28, ⟨.slice 61 13, 1, 24, .slice none 0 0⟩),
  (30, ⟨.struct [(0, 1), (1, 1), (2, 1)], 3, 72, .agg ⟨[.slice none 0 0, .slice none 0 0, .slice none 0 0]⟩⟩),
  (31, ⟨.int .i64, 1, 8, .int .i64 0⟩),
  (38, ⟨.arr 4 3 1, 4, 32, .agg ⟨[.int .i64 0, .int .i64 0, .int .i64 0, .int .i64 0]⟩⟩),
  (40, ⟨.struct [(0, 1), (1, 1), (2, 1), (3, 1), (4, 4)], 8, 64, .agg ⟨[.int .i64 0, .int .i64 0, .int .i64 0, .int .i64 0, .int .i64 0, .int .i64 0, .int .i64 0, .int .i64 0]⟩⟩),
  (46, ⟨.fn, 1, 8, .nilFunc⟩),
  (48, ⟨.ptr 30, 1, 8, .pointer none⟩),
  (52, ⟨.slice 99 5, 1, 24, .slice none 0 0⟩),
  (54, ⟨.struct [(0, 1), (1, 1)], 2, 32, .agg ⟨[.int .i64 0, .slice none 0 0]⟩⟩),
  (57, ⟨.struct [(0, 1), (1, 1), (2, 1)], 3, 16, .agg ⟨[.int .i64 0, .bool false, .bool false]⟩⟩),
  (59, ⟨.struct [(0, 1), (1, 1)], 2, 16, .agg ⟨[.int .i64 0, .int .u8 0]⟩⟩),
  (61, ⟨.struct [(0, 1), (1, 1), (2, 3), (5, 1), (6, 1), (7, 1), (8, 1), (9, 1), (10, 1), (11, 2)], 13, 88, .agg ⟨[.int .i64 0, .int .i64 0, .int .i64 0, .bool false, .bool false, .bool false, .bool false, .int .i64 0, .int .i64 0, .int .i64 0, .int .i64 0, .int .i64 0, .int .u8 0]⟩⟩),
  (67, ⟨.slice 71 3, 1, 24, .slice none 0 0⟩),
  (71, ⟨.struct [(0, 1), (1, 1), (2, 1)], 3, 32, .agg ⟨[.int .i64 0, .int .i64 0, .string ⟨⟨[]⟩⟩]⟩⟩),
  (72, ⟨.ptr 76, 1, 8, .pointer none⟩),
  (73, ⟨.ptr 120, 1, 8, .pointer none⟩),
  (76, ⟨.struct [(0, 1), (1, 1)], 2, 16, .agg ⟨[.pointer none, .bool false]⟩⟩),
  (82, ⟨.fn, 1, 8, .nilFunc⟩),
  (84, ⟨.fn, 1, 8, .nilFunc⟩),
  (86, ⟨.fn, 1, 8, .nilFunc⟩),
  (87, ⟨.ptr 89, 1, 8, .pointer none⟩),
  (89, ⟨.struct [(0, 1)], 1, 16, .agg ⟨[.string ⟨⟨[]⟩⟩]⟩⟩),
  (92, ⟨.arr 7 3 1, 7, 56, .agg ⟨[.int .i64 0, .int .i64 0, .int .i64 0, .int .i64 0, .int .i64 0, .int .i64 0, .int .i64 0]⟩⟩),
  (99, ⟨.struct [(0, 1), (1, 1), (2, 1), (3, 1), (4, 1)], 5, 48, .agg ⟨[.int .i64 0, .int .i64 0, .int .i64 0, .bool false, .string ⟨⟨[]⟩⟩]⟩⟩),
  (104, ⟨.ptr 153, 1, 8, .pointer none⟩),
  (107, ⟨.struct [(0, 1)], 1, 8, .agg ⟨[.pointer none]⟩⟩),
  (109, ⟨.int .u64, 1, 8, .int .u64 0⟩),
  (114, ⟨.slice 3 1, 1, 24, .slice none 0 0⟩),
  (120, ⟨.struct [(0, 1)], 1, 16, .agg ⟨[.string ⟨⟨[]⟩⟩]⟩⟩),
  (123, ⟨.slice 4 1, 1, 24, .slice none 0 0⟩),
  (136, ⟨.arr 6 3 1, 6, 48, .agg ⟨[.int .i64 0, .int .i64 0, .int .i64 0, .int .i64 0, .int .i64 0, .int .i64 0]⟩⟩),
  (137, ⟨.slice 5 1, 1, 24, .slice none 0 0⟩),
  (141, ⟨.ptr 146, 1, 8, .pointer none⟩),
  (142, ⟨.ptr 144, 1, 8, .pointer none⟩),
  (144, ⟨.struct [(0, 1), (1, 1)], 2, 32, .agg ⟨[.pointer none, .slice none 0 0]⟩⟩),
  (146, ⟨.struct [(0, 2)], 2, 32, .agg ⟨[.pointer none, .slice none 0 0]⟩⟩),
  (149, ⟨.slice 9 1, 1, 24, .slice none 0 0⟩),
  (151, ⟨.struct [(0, 1)], 1, 8, .agg ⟨[.int .i64 0]⟩⟩),
  (153, ⟨.struct [(0, 1), (1, 1)], 2, 32, .agg ⟨[.int .i64 0, .slice none 0 0]⟩⟩),
  (154, ⟨.slice 109 1, 1, 24, .slice none 0 0⟩),
  (155, ⟨.int .u64, 1, 8, .int .u64 0⟩),
  (158, ⟨.iface, 1, 16, .nilIface⟩),
  (162, ⟨.arr 8 5 1, 8, 8, .agg ⟨[.int .u8 0, .int .u8 0, .int .u8 0, .int .u8 0, .int .u8 0, .int .u8 0, .int .u8 0, .int .u8 0]⟩⟩),
  (166, ⟨.ptr 5, 1, 8, .pointer none⟩),
  (170, ⟨.int .i64, 1, 8, .int .i64 0⟩),
  (173, ⟨.ptr 187, 1, 8, .pointer none⟩),
  (176, ⟨.arr 24 5 1, 24, 24, .agg ⟨[.int .u8 0, .int .u8 0, .int .u8 0, .int .u8 0, .int .u8 0, .int .u8 0, .int .u8 0, .int .u8 0, .int .u8 0, .int .u8 0, .int .u8 0, .int .u8 0, .int .u8 0, .int .u8 0, .int .u8 0, .int .u8 0, .int .u8 0, .int .u8 0, .int .u8 0, .int .u8 0, .int .u8 0, .int .u8 0, .int .u8 0, .int .u8 0]⟩⟩),
  (187, ⟨.struct [(0, 1), (1, 1), (2, 1)], 3, 48, .agg ⟨[.string ⟨⟨[]⟩⟩, .string ⟨⟨[]⟩⟩, .nilIface]⟩⟩),
  (191, ⟨.arr 20 109 1, 20, 160, .agg ⟨[.int .u64 0, .int .u64 0, .int .u64 0, .int .u64 0, .int .u64 0, .int .u64 0, .int .u64 0, .int .u64 0, .int .u64 0, .int .u64 0, .int .u64 0, .int .u64 0, .int .u64 0, .int .u64 0, .int .u64 0, .int .u64 0, .int .u64 0, .int .u64 0, .int .u64 0, .int .u64 0]⟩⟩),
  (192, ⟨.int .u32, 1, 4, .int .u32 0⟩),
  (193, ⟨.arr 65 5 1, 65, 65, .agg ⟨[.int .u8 0, .int .u8 0, .int .u8 0, .int .u8 0, .int .u8 0, .int .u8 0, .int .u8 0, .int .u8 0, .int .u8 0, .int .u8 0, .int .u8 0, .int .u8 0, .int .u8 0, .int .u8 0, .int .u8 0, .int .u8 0, .int .u8 0, .int .u8 0, .int .u8 0, .int .u8 0, .int .u8 0, .int .u8 0, .int .u8 0, .int .u8 0, .int .u8 0, .int .u8 0, .int .u8 0, .int .u8 0, .int .u8 0, .int .u8 0, .int .u8 0, .int .u8 0, .int .u8 0, .int .u8 0, .int .u8 0, .int .u8 0, .int .u8 0, .int .u8 0, .int .u8 0, .int .u8 0, .int .u8 0, .int .u8 0, .int .u8 0, .int .u8 0, .int .u8 0, .int .u8 0, .int .u8 0, .int .u8 0, .int .u8 0, .int .u8 0, .int .u8 0, .int .u8 0, .int .u8 0, .int .u8 0, .int .u8 0, .int .u8 0, .int .u8 0, .int .u8 0, .int .u8 0, .int .u8 0, .int .u8 0, .int .u8 0, .int .u8 0, .int .u8 0, .int .u8 0]⟩⟩),
  (200, ⟨.ptr 202, 1, 8, .pointer none⟩),
  (202, ⟨.struct [(0, 1)], 1, 16, .agg ⟨[.string ⟨⟨[]⟩⟩]⟩⟩),
  (205, ⟨.arr 256 5 1, 256, 256, .agg ⟨[.int .u8 0, .int .u8 0, .int .u8 0, .int .u8 0, .int .u8 0, .int .u8 0, .int .u8 0, .int .u8 0, .int .u8 0, .int .u8 0, .int .u8 0, .int .u8 0, .int .u8 0, .int .u8 0, .int .u8 0, .int .u8 0, .int .u8 0, .int .u8 0, .int .u8 0, .int .u8 0, .int .u8 0, .int .u8 0, .int .u8 0, .int .u8 0, .int .u8 0, .int .u8 0, .int .u8 0, .int .u8 0, .int .u8 0, .int .u8 0, .int .u8 0, .int .u8 0, .int .u8 0, .int .u8 0, .int .u8 0, .int .u8 0, .int .u8 0, .int .u8 0, .int .u8 0, .int .u8 0, .int .u8 0, .int .u8 0, .int .u8 0, .int .u8 0, .int .u8 0, .int .u8 0, .int .u8 0, .int .u8 0, .int .u8 0, .int .u8 0, .int .u8 0, .int .u8 0, .int .u8 0, .int .u8 0, .int .u8 0, .int .u8 0, .int .u8 0, .int .u8 0, .int .u8 0, .int .u8 0, .int .u8 0, .int .u8 0, .int .u8 0, .int .u8 0, .int .u8 0, .int .u8 0, .int .u8 0, .int .u8 0, .int .u8 0, .int .u8 0, .int .u8 0, .int .u8 0, .int .u8 0, .int .u8 0, .int .u8 0, .int .u8 0, .int .u8 0, .int .u8 0, .int .u8 0, .int .u8 0, .int .u8 0, .int .u8 0, .int .u8 0, .int .u8 0, .int .u8 0, .int .u8 0, .int .u8 0, .int .u8 0, .int .u8 0, .int .u8 0, .int .u8 0, .int .u8 0, .int .u8 0, .int .u8 0, .int .u8 0, .int .u8 0, .int .u8 0, .int .u8 0, .int .u8 0, .int .u8 0, .int .u8 0, .int .u8 0, .int .u8 0, .int .u8 0, .int .u8 0, .int .u8 0, .int .u8 0, .int .u8 0, .int .u8 0, .int .u8 0, .int .u8 0, .int .u8 0, .int .u8 0, .int .u8 0, .int .u8 0, .int .u8 0, .int .u8 0, .int .u8 0, .int .u8 0, .int .u8 0, .int .u8 0, .int .u8 0, .int .u8 0, .int .u8 0, .int .u8 0, .int .u8 0, .int .u8 0, .int .u8 0, .int .u8 0, .int .u8 0, .int .u8 0, .int .u8 0, .int .u8 0, .int .u8 0, .int .u8 0, .int .u8 0, .int .u8 0, .int .u8 0, .int .u8 0, .int .u8 0, .int .u8 0, .int .u8 0, .int .u8 0, .int .u8 0, .int .u8 0, .int .u8 0, .int .u8 0, .int .u8 0, .int .u8 0, .int .u8 0, .int .u8 0, .int .u8 0, .int .u8 0, .int .u8 0, .int .u8 0, .int .u8 0, .int .u8 0, .int .u8 0, .int .u8 0, .int .u8 0, .int .u8 0, .int .u8 0, .int .u8 0, .int .u8 0, .int .u8 0, .int .u8 0, .int .u8 0, .int .u8 0, .int .u8 0, .int .u8 0, .int .u8 0, .int .u8 0, .int .u8 0, .int .u8 0, .int .u8 0, .int .u8 0, .int .u8 0, .int .u8 0, .int .u8 0, .int .u8 0, .int .u8 0, .int .u8 0, .int .u8 0, .int .u8 0, .int .u8 0, .int .u8 0, .int .u8 0, .int .u8 0, .int .u8 0, .int .u8 0, .int .u8 0, .int .u8 0, .int .u8 0, .int .u8 0, .int .u8 0, .int .u8 0, .int .u8 0, .int .u8 0, .int .u8 0, .int .u8 0, .int .u8 0, .int .u8 0, .int .u8 0, .int .u8 0, .int .u8 0, .int .u8 0, .int .u8 0, .int .u8 0, .int .u8 0, .int .u8 0, .int .u8 0, .int .u8 0, .int .u8 0, .int .u8 0, .int .u8 0, .int .u8 0, .int .u8 0, .int .u8 0, .int .u8 0, .int .u8 0, .int .u8 0, .int .u8 0, .int .u8 0, .int .u8 0, .int .u8 0, .int .u8 0, .int .u8 0, .int .u8 0, .int .u8 0, .int .u8 0, .int .u8 0, .int .u8 0, .int .u8 0, .int .u8 0, .int .u8 0, .int .u8 0, .int .u8 0, .int .u8 0, .int .u8 0, .int .u8 0, .int .u8 0, .int .u8 0, .int .u8 0, .int .u8 0, .int .u8 0, .int .u8 0, .int .u8 0, .int .u8 0, .int .u8 0, .int .u8 0, .int .u8 0, .int .u8 0, .int .u8 0, .int .u8 0, .int .u8 0, .int .u8 0]⟩⟩),
  (207, ⟨.struct [(0, 1), (1, 1)], 2, 2, .agg ⟨[.int .u8 0, .int .u8 0]⟩⟩),
  (208, ⟨.arr 16 207 2, 32, 32, .agg ⟨[.int .u8 0, .int .u8 0, .int .u8 0, .int .u8 0, .int .u8 0, .int .u8 0, .int .u8 0, .int .u8 0, .int .u8 0, .int .u8 0, .int .u8 0, .int .u8 0, .int .u8 0, .int .u8 0, .int .u8 0, .int .u8 0, .int .u8 0, .int .u8 0, .int .u8 0, .int .u8 0, .int .u8 0, .int .u8 0, .int .u8 0, .int .u8 0, .int .u8 0, .int .u8 0, .int .u8 0, .int .u8 0, .int .u8 0, .int .u8 0, .int .u8 0, .int .u8 0]⟩⟩),
  (209, ⟨.arr 32 5 1, 32, 32, .agg ⟨[.int .u8 0, .int .u8 0, .int .u8 0, .int .u8 0, .int .u8 0, .int .u8 0, .int .u8 0, .int .u8 0, .int .u8 0, .int .u8 0, .int .u8 0, .int .u8 0, .int .u8 0, .int .u8 0, .int .u8 0, .int .u8 0, .int .u8 0, .int .u8 0, .int .u8 0, .int .u8 0, .int .u8 0, .int .u8 0, .int .u8 0, .int .u8 0, .int .u8 0, .int .u8 0, .int .u8 0, .int .u8 0, .int .u8 0, .int .u8 0, .int .u8 0, .int .u8 0]⟩⟩),
  (210, ⟨.arr 64 5 1, 64, 64, .agg ⟨[.int .u8 0, .int .u8 0, .int .u8 0, .int .u8 0, .int .u8 0, .int .u8 0, .int .u8 0, .int .u8 0, .int .u8 0, .int .u8 0, .int .u8 0, .int .u8 0, .int .u8 0, .int .u8 0, .int .u8 0, .int .u8 0, .int .u8 0, .int .u8 0, .int .u8 0, .int .u8 0, .int .u8 0, .int .u8 0, .int .u8 0, .int .u8 0, .int .u8 0, .int .u8 0, .int .u8 0, .int .u8 0, .int .u8 0, .int .u8 0, .int .u8 0, .int .u8 0, .int .u8 0, .int .u8 0, .int .u8 0, .int .u8 0, .int .u8 0, .int .u8 0, .int .u8 0, .int .u8 0, .int .u8 0, .int .u8 0, .int .u8 0, .int .u8 0, .int .u8 0, .int .u8 0, .int .u8 0, .int .u8 0, .int .u8 0, .int .u8 0, .int .u8 0, .int .u8 0, .int .u8 0, .int .u8 0, .int .u8 0, .int .u8 0, .int .u8 0, .int .u8 0, .int .u8 0, .int .u8 0, .int .u8 0, .int .u8 0, .int .u8 0, .int .u8 0]⟩⟩)]
theorem tblOk : TOk Tryz.prog tbl :=
  .cons ⟨by kernel_rfl, Tryz.underlying2⟩ (
  .cons ⟨by kernel_rfl, Tryz.underlying3⟩ (
  .cons ⟨by kernel_rfl, Tryz.underlying4⟩ (
  .cons ⟨by kernel_rfl, Tryz.underlying5⟩ (
  .cons ⟨by kernel_rfl, Tryz.underlying9⟩ (
  .cons ⟨by kernel_rfl, Tryz.underlying21⟩ (
  .cons ⟨by kernel_rfl, ⟨Tryz.underlying22, by kernel_rfl⟩⟩ (
  .cons ⟨by kernel_rfl, ⟨_, Tryz.underlying25, by kernel_rfl⟩⟩ (
  .cons ⟨by kernel_rfl, ⟨Tryz.underlying26, by kernel_rfl⟩⟩ (
  .cons ⟨by kernel_rfl, ⟨Tryz.underlying27, by kernel_rfl⟩⟩ (
  .cons ⟨by kernel_rfl, ⟨Tryz.underlying28, by kernel_rfl⟩⟩ (
  .cons ⟨by kernel_rfl, ⟨_, Tryz.underlying30, by kernel_rfl⟩⟩ (
  .cons ⟨by kernel_rfl, Tryz.underlying31⟩ (
  .cons ⟨by kernel_rfl, ⟨Tryz.underlying38, by kernel_rfl⟩⟩ (
  .cons ⟨by kernel_rfl, ⟨_, Tryz.underlying40, by kernel_rfl⟩⟩ (
  .cons ⟨by kernel_rfl, ⟨_, _, _, Tryz.underlying46⟩⟩ (
  .cons ⟨by kernel_rfl, Tryz.underlying48⟩ (
  .cons ⟨by kernel_rfl, ⟨Tryz.underlying52, by kernel_rfl⟩⟩ (
  .cons ⟨by kernel_rfl, ⟨_, Tryz.underlying54, by kernel_rfl⟩⟩ (
  .cons ⟨by kernel_rfl, ⟨_, Tryz.underlying57, by kernel_rfl⟩⟩ (
  .cons ⟨by kernel_rfl, ⟨_, Tryz.underlying59, by kernel_rfl⟩⟩ (
  .cons ⟨by kernel_rfl, ⟨_, Tryz.underlying61, by kernel_rfl⟩⟩ (
  .cons ⟨by kernel_rfl, ⟨Tryz.underlying67, by kernel_rfl⟩⟩ (
  .cons ⟨by kernel_rfl, ⟨_, Tryz.underlying71, by kernel_rfl⟩⟩ (
  .cons ⟨by kernel_rfl, Tryz.underlying72⟩ (
  .cons ⟨by kernel_rfl, Tryz.underlying73⟩ (
  .cons ⟨by kernel_rfl, ⟨_, Tryz.underlying76, by kernel_rfl⟩⟩ (
  .cons ⟨by kernel_rfl, ⟨_, _, _, Tryz.underlying82⟩⟩ (
  .cons ⟨by kernel_rfl, ⟨_, _, _, Tryz.underlying84⟩⟩ (
  .cons ⟨by kernel_rfl, ⟨_, _, _, Tryz.underlying86⟩⟩ (
  .cons ⟨by kernel_rfl, Tryz.underlying87⟩ (
  .cons ⟨by kernel_rfl, ⟨_, Tryz.underlying89, by kernel_rfl⟩⟩ (
  .cons ⟨by kernel_rfl, ⟨Tryz.underlying92, by kernel_rfl⟩⟩ (
  .cons ⟨by kernel_rfl, ⟨_, Tryz.underlying99, by kernel_rfl⟩⟩ (
  .cons ⟨by kernel_rfl, Tryz.underlying104⟩ (
  .cons ⟨by kernel_rfl, ⟨_, Tryz.underlying107, by kernel_rfl⟩⟩ (
  .cons ⟨by kernel_rfl, Tryz.underlying109⟩ (
  .cons ⟨by kernel_rfl, ⟨Tryz.underlying114, by kernel_rfl⟩⟩ (
  .cons ⟨by kernel_rfl, ⟨_, Tryz.underlying120, by kernel_rfl⟩⟩ (
  .cons ⟨by kernel_rfl, ⟨Tryz.underlying123, by kernel_rfl⟩⟩ (
  .cons ⟨by kernel_rfl, ⟨Tryz.underlying136, by kernel_rfl⟩⟩ (
  .cons ⟨by kernel_rfl, ⟨Tryz.underlying137, by kernel_rfl⟩⟩ (
  .cons ⟨by kernel_rfl, Tryz.underlying141⟩ (
  .cons ⟨by kernel_rfl, Tryz.underlying142⟩ (
  .cons ⟨by kernel_rfl, ⟨_, Tryz.underlying144, by kernel_rfl⟩⟩ (
  .cons ⟨by kernel_rfl, ⟨_, Tryz.underlying146, by kernel_rfl⟩⟩ (
  .cons ⟨by kernel_rfl, ⟨Tryz.underlying149, by kernel_rfl⟩⟩ (
  .cons ⟨by kernel_rfl, ⟨_, Tryz.underlying151, by kernel_rfl⟩⟩ (
  .cons ⟨by kernel_rfl, ⟨_, Tryz.underlying153, by kernel_rfl⟩⟩ (
  .cons ⟨by kernel_rfl, ⟨Tryz.underlying154, by kernel_rfl⟩⟩ (
  .cons ⟨by kernel_rfl, Tryz.underlying155⟩ (
  .cons ⟨by kernel_rfl, ⟨_, Tryz.underlying158⟩⟩ (
  .cons ⟨by kernel_rfl, ⟨Tryz.underlying162, by kernel_rfl⟩⟩ (
  .cons ⟨by kernel_rfl, Tryz.underlying166⟩ (
  .cons ⟨by kernel_rfl, Tryz.underlying170⟩ (
  .cons ⟨by kernel_rfl, Tryz.underlying173⟩ (
  .cons ⟨by kernel_rfl, ⟨Tryz.underlying176, by kernel_rfl⟩⟩ (
  .cons ⟨by kernel_rfl, ⟨_, Tryz.underlying187, by kernel_rfl⟩⟩ (
  .cons ⟨by kernel_rfl, ⟨Tryz.underlying191, by kernel_rfl⟩⟩ (
  .cons ⟨by kernel_rfl, Tryz.underlying192⟩ (
  .cons ⟨by kernel_rfl, ⟨Tryz.underlying193, by kernel_rfl⟩⟩ (
  .cons ⟨by kernel_rfl, Tryz.underlying200⟩ (
  .cons ⟨by kernel_rfl, ⟨_, Tryz.underlying202, by kernel_rfl⟩⟩ (
  .cons ⟨by kernel_rfl, ⟨Tryz.underlying205, by kernel_rfl⟩⟩ (
  .cons ⟨by kernel_rfl, ⟨_, Tryz.underlying207, by kernel_rfl⟩⟩ (
  .cons ⟨by kernel_rfl, ⟨Tryz.underlying208, by kernel_rfl⟩⟩ (
  .cons ⟨by kernel_rfl, ⟨Tryz.underlying209, by kernel_rfl⟩⟩ (
  .cons ⟨by kernel_rfl, ⟨Tryz.underlying210, by kernel_rfl⟩⟩ (
  .nil))))))))))))))))))))))))))))))))))))))))))))))))))))))))))))))))))))
theorem mixed : Tryz.prog.follows .mixedOrders = true := by kernel_rfl
abbrev T_int : Nat := 3
abbrev T_bool : Nat := 4
abbrev T_uint8 : Nat := 5
abbrev T_string : Nat := 9
abbrev T_int32 : Nat := 21
abbrev T_Sl_api_Op : Nat := 22
abbrev T_api_Op : Nat := 25
abbrev T_api_State : Nat := 30
abbrev T_4_int : Nat := 38
abbrev T_api_Flight : Nat := 40
abbrev T_api_Equip : Nat := 54
abbrev T_api_Who : Nat := 57
abbrev T_api_Seat : Nat := 59
abbrev T_api_Pax : Nat := 61
abbrev T_api_Part : Nat := 71
abbrev T_rows_reader : Nat := 76
abbrev T_tarmacref01_Reader : Nat := 89
abbrev T_7_int : Nat := 92
abbrev T_api_Row : Nat := 99
abbrev T_rows_writer : Nat := 107
abbrev T_pack_Reader : Nat := 120
abbrev T_6_int : Nat := 136
abbrev T_Sl_uint8 : Nat := 137
abbrev T_Ptr_strings_Builder : Nat := 142
abbrev T_strings_Builder : Nat := 144
abbrev T_order_builder : Nat := 146
abbrev T_pack_Writer : Nat := 153
abbrev T_8_uint8 : Nat := 162
abbrev T_Ptr_uint8 : Nat := 166
abbrev T_unsafe_Pointer : Nat := 180
abbrev f_tarmaclaw22_RowsLoad : Nat := 3
theorem en_tarmaclaw22_RowsLoad {args : List Value} {w : World} {R : Value → World → Prop} (hlen : Nat.ble args.length 54 = true) (h : SemW Tryz.prog 54 (Tryz.f3.body.getD .skip) (retQ tbl [.tmp 2] R) (argEnv 0 args) w) : Cl Tryz.prog 3 args w R :=
  Cl.enter tblOk Tryz.call3 Tryz.func3 Tryz.ntmps3 rfl Tryz.results3 hlen h
abbrev f_tarmaclaw22_lives : Nat := 4
theorem en_tarmaclaw22_lives {args : List Value} {w : World} {R : Value → World → Prop} (hlen : Nat.ble args.length 27 = true) (h : SemW Tryz.prog 27 (Tryz.f4.body.getD .skip) (retQ tbl [.tmp 0] R) (argEnv 0 args) w) : Cl Tryz.prog 4 args w R :=
  Cl.enter tblOk Tryz.call4 Tryz.func4 Tryz.ntmps4 rfl Tryz.results4 hlen h
abbrev f_rows_Load : Nat := 5
theorem en_rows_Load {args : List Value} {w : World} {R : Value → World → Prop} (hlen : Nat.ble args.length 28 = true) (h : SemW Tryz.prog 28 (Tryz.f5.body.getD .skip) (retQ tbl [.cell 2 30, .tmp 3] R) (argEnv 0 args) w) : Cl Tryz.prog 5 args w R :=
  Cl.enter tblOk Tryz.call5 Tryz.func5 Tryz.ntmps5 rfl Tryz.results5 hlen h
abbrev f_tarmacref22_Load : Nat := 6
theorem en_tarmacref22_Load {args : List Value} {w : World} {R : Value → World → Prop} (hlen : Nat.ble args.length 48 = true) (h : SemW Tryz.prog 48 (Tryz.f6.body.getD .skip) (retQ tbl [.cell 2 30, .tmp 3] R) (argEnv 0 args) w) : Cl Tryz.prog 6 args w R :=
  Cl.enter tblOk Tryz.call6 Tryz.func6 Tryz.ntmps6 rfl Tryz.results6 hlen h
abbrev f_tarmacref21_Same : Nat := 7
theorem en_tarmacref21_Same {args : List Value} {w : World} {R : Value → World → Prop} (hlen : Nat.ble args.length 105 = true) (h : SemW Tryz.prog 105 (Tryz.f7.body.getD .skip) (retQ tbl [.tmp 4] R) (argEnv 0 args) w) : Cl Tryz.prog 7 args w R :=
  Cl.enter tblOk Tryz.call7 Tryz.func7 Tryz.ntmps7 rfl Tryz.results7 hlen h
abbrev f_tarmacref22_Same : Nat := 8
theorem en_tarmacref22_Same {args : List Value} {w : World} {R : Value → World → Prop} (hlen : Nat.ble args.length 26 = true) (h : SemW Tryz.prog 26 (Tryz.f8.body.getD .skip) (retQ tbl [.tmp 4] R) (argEnv 0 args) w) : Cl Tryz.prog 8 args w R :=
  Cl.enter tblOk Tryz.call8 Tryz.func8 Tryz.ntmps8 rfl Tryz.results8 hlen h
abbrev f_rows_All : Nat := 9
theorem en_rows_All {args : List Value} {w : World} {R : Value → World → Prop} (hlen : Nat.ble args.length 66 = true) (h : SemW Tryz.prog 66 (Tryz.f9.body.getD .skip) (retQ tbl [.tmp 2, .tmp 3] R) (argEnv 0 args) w) : Cl Tryz.prog 9 args w R :=
  Cl.enter tblOk Tryz.call9 Tryz.func9 Tryz.ntmps9 rfl Tryz.results9 hlen h
abbrev f_slices_Clone_api_Op_api_Op : Nat := 10
theorem en_slices_Clone_api_Op_api_Op {args : List Value} {w : World} {R : Value → World → Prop} (hlen : Nat.ble args.length 8 = true) (h : SemW Tryz.prog 8 (Tryz.f10.body.getD .skip) (retQ tbl [.tmp 2] R) (argEnv 0 args) w) : Cl Tryz.prog 10 args w R :=
  Cl.enter tblOk Tryz.call10 Tryz.func10 Tryz.ntmps10 rfl Tryz.results10 hlen h
abbrev f_slices_SortStableFunc_api_Op_api_Op : Nat := 11
theorem en_slices_SortStableFunc_api_Op_api_Op {args : List Value} {w : World} {R : Value → World → Prop} (hlen : Nat.ble args.length 9 = true) (h : SemW Tryz.prog 9 (Tryz.f11.body.getD .skip) (retQ tbl [] R) (argEnv 0 args) w) : Cl Tryz.prog 11 args w R :=
  Cl.enter tblOk Tryz.call11 Tryz.func11 Tryz.ntmps11 rfl Tryz.results11 hlen h
abbrev f_rows_Load_1 : Nat := 12
theorem en_rows_Load_1 {args : List Value} {w : World} {R : Value → World → Prop} (hlen : Nat.ble args.length 10 = true) (h : SemW Tryz.prog 10 (Tryz.f12.body.getD .skip) (retQ tbl [.tmp 4] R) (argEnv 0 args) w) : Cl Tryz.prog 12 args w R :=
  Cl.enter tblOk Tryz.call12 Tryz.func12 Tryz.ntmps12 rfl Tryz.results12 hlen h
abbrev f_strings_Compare : Nat := 13
theorem en_strings_Compare {args : List Value} {w : World} {R : Value → World → Prop} (hlen : Nat.ble args.length 8 = true) (h : SemW Tryz.prog 8 (Tryz.f13.body.getD .skip) (retQ tbl [.tmp 4] R) (argEnv 0 args) w) : Cl Tryz.prog 13 args w R :=
  Cl.enter tblOk Tryz.call13 Tryz.func13 Tryz.ntmps13 rfl Tryz.results13 hlen h
abbrev f_rows_record : Nat := 14
theorem en_rows_record {args : List Value} {w : World} {R : Value → World → Prop} (hlen : Nat.ble args.length 107 = true) (h : SemW Tryz.prog 107 (Tryz.f14.body.getD .skip) (retQ tbl [.tmp 4] R) (argEnv 0 args) w) : Cl Tryz.prog 14 args w R :=
  Cl.enter tblOk Tryz.call14 Tryz.func14 Tryz.ntmps14 rfl Tryz.results14 hlen h
abbrev f_rows_inForm : Nat := 15
theorem en_rows_inForm {args : List Value} {w : World} {R : Value → World → Prop} (hlen : Nat.ble args.length 36 = true) (h : SemW Tryz.prog 36 (Tryz.f15.body.getD .skip) (retQ tbl [.tmp 2] R) (argEnv 0 args) w) : Cl Tryz.prog 15 args w R :=
  Cl.enter tblOk Tryz.call15 Tryz.func15 Tryz.ntmps15 rfl Tryz.results15 hlen h
abbrev f_tarmacref22_put : Nat := 16
theorem en_tarmacref22_put {args : List Value} {w : World} {R : Value → World → Prop} (hlen : Nat.ble args.length 38 = true) (h : SemW Tryz.prog 38 (Tryz.f16.body.getD .skip) (retQ tbl [.tmp 4] R) (argEnv 0 args) w) : Cl Tryz.prog 16 args w R :=
  Cl.enter tblOk Tryz.call16 Tryz.func16 Tryz.ntmps16 rfl Tryz.results16 hlen h
abbrev f_tarmacref22_one : Nat := 17
theorem en_tarmacref22_one {args : List Value} {w : World} {R : Value → World → Prop} (hlen : Nat.ble args.length 127 = true) (h : SemW Tryz.prog 127 (Tryz.f17.body.getD .skip) (retQ tbl [.tmp 4] R) (argEnv 0 args) w) : Cl Tryz.prog 17 args w R :=
  Cl.enter tblOk Tryz.call17 Tryz.func17 Tryz.ntmps17 rfl Tryz.results17 hlen h
abbrev f_tarmacref22_All : Nat := 18
theorem en_tarmacref22_All {args : List Value} {w : World} {R : Value → World → Prop} (hlen : Nat.ble args.length 67 = true) (h : SemW Tryz.prog 67 (Tryz.f18.body.getD .skip) (retQ tbl [.tmp 2, .tmp 3] R) (argEnv 0 args) w) : Cl Tryz.prog 18 args w R :=
  Cl.enter tblOk Tryz.call18 Tryz.func18 Tryz.ntmps18 rfl Tryz.results18 hlen h
abbrev f_tarmacref13_SameRows : Nat := 19
theorem en_tarmacref13_SameRows {args : List Value} {w : World} {R : Value → World → Prop} (hlen : Nat.ble args.length 26 = true) (h : SemW Tryz.prog 26 (Tryz.f19.body.getD .skip) (retQ tbl [.tmp 4] R) (argEnv 0 args) w) : Cl Tryz.prog 19 args w R :=
  Cl.enter tblOk Tryz.call19 Tryz.func19 Tryz.ntmps19 rfl Tryz.results19 hlen h
abbrev f_rows_key : Nat := 20
theorem en_rows_key {args : List Value} {w : World} {R : Value → World → Prop} (hlen : Nat.ble args.length 19 = true) (h : SemW Tryz.prog 19 (Tryz.f20.body.getD .skip) (retQ tbl [.tmp 4] R) (argEnv 0 args) w) : Cl Tryz.prog 20 args w R :=
  Cl.enter tblOk Tryz.call20 Tryz.func20 Tryz.ntmps20 rfl Tryz.results20 hlen h
abbrev f_rows_equip : Nat := 21
theorem en_rows_equip {args : List Value} {w : World} {R : Value → World → Prop} (hlen : Nat.ble args.length 48 = true) (h : SemW Tryz.prog 48 (Tryz.f21.body.getD .skip) (retQ tbl [.tmp 2] R) (argEnv 0 args) w) : Cl Tryz.prog 21 args w R :=
  Cl.enter tblOk Tryz.call21 Tryz.func21 Tryz.ntmps21 rfl Tryz.results21 hlen h
abbrev f_rows_flight : Nat := 22
theorem en_rows_flight {args : List Value} {w : World} {R : Value → World → Prop} (hlen : Nat.ble args.length 24 = true) (h : SemW Tryz.prog 24 (Tryz.f22.body.getD .skip) (retQ tbl [.tmp 2] R) (argEnv 0 args) w) : Cl Tryz.prog 22 args w R :=
  Cl.enter tblOk Tryz.call22 Tryz.func22 Tryz.ntmps22 rfl Tryz.results22 hlen h
abbrev f_rows_pax : Nat := 23
theorem en_rows_pax {args : List Value} {w : World} {R : Value → World → Prop} (hlen : Nat.ble args.length 52 = true) (h : SemW Tryz.prog 52 (Tryz.f23.body.getD .skip) (retQ tbl [.tmp 2] R) (argEnv 0 args) w) : Cl Tryz.prog 23 args w R :=
  Cl.enter tblOk Tryz.call23 Tryz.func23 Tryz.ntmps23 rfl Tryz.results23 hlen h
abbrev f_slices_stableCmpFunc_api_Op : Nat := 24
theorem en_slices_stableCmpFunc_api_Op {args : List Value} {w : World} {R : Value → World → Prop} (hlen : Nat.ble args.length 63 = true) (h : SemW Tryz.prog 63 (Tryz.f24.body.getD .skip) (retQ tbl [] R) (argEnv 0 args) w) : Cl Tryz.prog 24 args w R :=
  Cl.enter tblOk Tryz.call24 Tryz.func24 Tryz.ntmps24 rfl Tryz.results24 hlen h
theorem en_internal_bytealg_CompareString {args : List Value} {w : World} {R : Value → World → Prop} (hlen : Nat.ble args.length 8 = true) (h : SemW Tryz.prog 8 (Tryz.f25.body.getD .skip) (retQ tbl [.tmp 4] R) (argEnv 0 args) w) : Cl Tryz.prog 25 args w R :=
  Cl.enter tblOk Tryz.call25 Tryz.func25 Tryz.ntmps25 rfl Tryz.results25 hlen h
abbrev f_order_Split : Nat := 26
theorem en_order_Split {args : List Value} {w : World} {R : Value → World → Prop} (hlen : Nat.ble args.length 36 = true) (h : SemW Tryz.prog 36 (Tryz.f26.body.getD .skip) (retQ tbl [.tmp 2, .tmp 3] R) (argEnv 0 args) w) : Cl Tryz.prog 26 args w R :=
  Cl.enter tblOk Tryz.call26 Tryz.func26 Tryz.ntmps26 rfl Tryz.results26 hlen h
abbrev f_pack_Read : Nat := 27
theorem en_pack_Read {args : List Value} {w : World} {R : Value → World → Prop} (hlen : Nat.ble args.length 6 = true) (h : SemW Tryz.prog 6 (Tryz.f27.body.getD .skip) (retQ tbl [.tmp 2] R) (argEnv 0 args) w) : Cl Tryz.prog 27 args w R :=
  Cl.enter tblOk Tryz.call27 Tryz.func27 Tryz.ntmps27 rfl Tryz.results27 hlen h
abbrev f_rows_reader_equip : Nat := 28
theorem en_rows_reader_equip {args : List Value} {w : World} {R : Value → World → Prop} (hlen : Nat.ble args.length 45 = true) (h : SemW Tryz.prog 45 (Tryz.f28.body.getD .skip) (retQ tbl [.cell 4 54] R) (argEnv 0 args) w) : Cl Tryz.prog 28 args w R :=
  Cl.enter tblOk Tryz.call28 Tryz.func28 Tryz.ntmps28 rfl Tryz.results28 hlen h
abbrev f_rows_reader_flight : Nat := 29
theorem en_rows_reader_flight {args : List Value} {w : World} {R : Value → World → Prop} (hlen : Nat.ble args.length 25 = true) (h : SemW Tryz.prog 25 (Tryz.f29.body.getD .skip) (retQ tbl [.cell 4 40] R) (argEnv 0 args) w) : Cl Tryz.prog 29 args w R :=
  Cl.enter tblOk Tryz.call29 Tryz.func29 Tryz.ntmps29 rfl Tryz.results29 hlen h
abbrev f_rows_reader_pax : Nat := 30
theorem en_rows_reader_pax {args : List Value} {w : World} {R : Value → World → Prop} (hlen : Nat.ble args.length 73 = true) (h : SemW Tryz.prog 73 (Tryz.f30.body.getD .skip) (retQ tbl [.cell 4 61] R) (argEnv 0 args) w) : Cl Tryz.prog 30 args w R :=
  Cl.enter tblOk Tryz.call30 Tryz.func30 Tryz.ntmps30 rfl Tryz.results30 hlen h
abbrev f_pack_Reader_Done : Nat := 31
theorem en_pack_Reader_Done {args : List Value} {w : World} {R : Value → World → Prop} (hlen : Nat.ble args.length 8 = true) (h : SemW Tryz.prog 8 (Tryz.f31.body.getD .skip) (retQ tbl [.tmp 2] R) (argEnv 0 args) w) : Cl Tryz.prog 31 args w R :=
  Cl.enter tblOk Tryz.call31 Tryz.func31 Tryz.ntmps31 rfl Tryz.results31 hlen h
abbrev f_cabin_Label : Nat := 32
theorem en_cabin_Label {args : List Value} {w : World} {R : Value → World → Prop} (hlen : Nat.ble args.length 25 = true) (h : SemW Tryz.prog 25 (Tryz.f32.body.getD .skip) (retQ tbl [.tmp 2] R) (argEnv 0 args) w) : Cl Tryz.prog 32 args w R :=
  Cl.enter tblOk Tryz.call32 Tryz.func32 Tryz.ntmps32 rfl Tryz.results32 hlen h
abbrev f_rows_rising_api_Equip : Nat := 33
theorem en_rows_rising_api_Equip {args : List Value} {w : World} {R : Value → World → Prop} (hlen : Nat.ble args.length 26 = true) (h : SemW Tryz.prog 26 (Tryz.f33.body.getD .skip) (retQ tbl [.tmp 4] R) (argEnv 0 args) w) : Cl Tryz.prog 33 args w R :=
  Cl.enter tblOk Tryz.call33 Tryz.func33 Tryz.ntmps33 rfl Tryz.results33 hlen h
abbrev f_rows_inForm_1 : Nat := 34
theorem en_rows_inForm_1 {args : List Value} {w : World} {R : Value → World → Prop} (hlen : Nat.ble args.length 5 = true) (h : SemW Tryz.prog 5 (Tryz.f34.body.getD .skip) (retQ tbl [.tmp 2] R) (argEnv 0 args) w) : Cl Tryz.prog 34 args w R :=
  Cl.enter tblOk Tryz.call34 Tryz.func34 Tryz.ntmps34 rfl Tryz.results34 hlen h
abbrev f_rows_rising_api_Flight : Nat := 35
theorem en_rows_rising_api_Flight {args : List Value} {w : World} {R : Value → World → Prop} (hlen : Nat.ble args.length 26 = true) (h : SemW Tryz.prog 26 (Tryz.f35.body.getD .skip) (retQ tbl [.tmp 4] R) (argEnv 0 args) w) : Cl Tryz.prog 35 args w R :=
  Cl.enter tblOk Tryz.call35 Tryz.func35 Tryz.ntmps35 rfl Tryz.results35 hlen h
abbrev f_rows_inForm_2 : Nat := 36
theorem en_rows_inForm_2 {args : List Value} {w : World} {R : Value → World → Prop} (hlen : Nat.ble args.length 5 = true) (h : SemW Tryz.prog 5 (Tryz.f36.body.getD .skip) (retQ tbl [.tmp 2] R) (argEnv 0 args) w) : Cl Tryz.prog 36 args w R :=
  Cl.enter tblOk Tryz.call36 Tryz.func36 Tryz.ntmps36 rfl Tryz.results36 hlen h
abbrev f_rows_rising_api_Pax : Nat := 37
theorem en_rows_rising_api_Pax {args : List Value} {w : World} {R : Value → World → Prop} (hlen : Nat.ble args.length 26 = true) (h : SemW Tryz.prog 26 (Tryz.f37.body.getD .skip) (retQ tbl [.tmp 4] R) (argEnv 0 args) w) : Cl Tryz.prog 37 args w R :=
  Cl.enter tblOk Tryz.call37 Tryz.func37 Tryz.ntmps37 rfl Tryz.results37 hlen h
abbrev f_rows_inForm_3 : Nat := 38
theorem en_rows_inForm_3 {args : List Value} {w : World} {R : Value → World → Prop} (hlen : Nat.ble args.length 5 = true) (h : SemW Tryz.prog 5 (Tryz.f38.body.getD .skip) (retQ tbl [.tmp 2] R) (argEnv 0 args) w) : Cl Tryz.prog 38 args w R :=
  Cl.enter tblOk Tryz.call38 Tryz.func38 Tryz.ntmps38 rfl Tryz.results38 hlen h
abbrev f_tarmacref03_Split : Nat := 39
theorem en_tarmacref03_Split {args : List Value} {w : World} {R : Value → World → Prop} (hlen : Nat.ble args.length 38 = true) (h : SemW Tryz.prog 38 (Tryz.f39.body.getD .skip) (retQ tbl [.tmp 2, .tmp 3] R) (argEnv 0 args) w) : Cl Tryz.prog 39 args w R :=
  Cl.enter tblOk Tryz.call39 Tryz.func39 Tryz.ntmps39 rfl Tryz.results39 hlen h
abbrev f_tarmacref22_ReadRows : Nat := 40
theorem en_tarmacref22_ReadRows {args : List Value} {w : World} {R : Value → World → Prop} (hlen : Nat.ble args.length 75 = true) (h : SemW Tryz.prog 75 (Tryz.f40.body.getD .skip) (retQ tbl [.tmp 2, .tmp 3] R) (argEnv 0 args) w) : Cl Tryz.prog 40 args w R :=
  Cl.enter tblOk Tryz.call40 Tryz.func40 Tryz.ntmps40 rfl Tryz.results40 hlen h
abbrev f_tarmacref01_Reader_Int : Nat := 41
theorem en_tarmacref01_Reader_Int {args : List Value} {w : World} {R : Value → World → Prop} (hlen : Nat.ble args.length 16 = true) (h : SemW Tryz.prog 16 (Tryz.f41.body.getD .skip) (retQ tbl [.tmp 2, .tmp 3] R) (argEnv 0 args) w) : Cl Tryz.prog 41 args w R :=
  Cl.enter tblOk Tryz.call41 Tryz.func41 Tryz.ntmps41 rfl Tryz.results41 hlen h
abbrev f_tarmacref22_ReadPax : Nat := 42
theorem en_tarmacref22_ReadPax {args : List Value} {w : World} {R : Value → World → Prop} (hlen : Nat.ble args.length 92 = true) (h : SemW Tryz.prog 92 (Tryz.f42.body.getD .skip) (retQ tbl [.cell 2 61, .tmp 3] R) (argEnv 0 args) w) : Cl Tryz.prog 42 args w R :=
  Cl.enter tblOk Tryz.call42 Tryz.func42 Tryz.ntmps42 rfl Tryz.results42 hlen h
abbrev f_tarmacref22_Form : Nat := 43
theorem en_tarmacref22_Form {args : List Value} {w : World} {R : Value → World → Prop} (hlen : Nat.ble args.length 92 = true) (h : SemW Tryz.prog 92 (Tryz.f43.body.getD .skip) (retQ tbl [.tmp 2] R) (argEnv 0 args) w) : Cl Tryz.prog 43 args w R :=
  Cl.enter tblOk Tryz.call43 Tryz.func43 Tryz.ntmps43 rfl Tryz.results43 hlen h
abbrev f_tarmacref22_Key : Nat := 44
theorem en_tarmacref22_Key {args : List Value} {w : World} {R : Value → World → Prop} (hlen : Nat.ble args.length 17 = true) (h : SemW Tryz.prog 17 (Tryz.f44.body.getD .skip) (retQ tbl [.tmp 4] R) (argEnv 0 args) w) : Cl Tryz.prog 44 args w R :=
  Cl.enter tblOk Tryz.call44 Tryz.func44 Tryz.ntmps44 rfl Tryz.results44 hlen h
abbrev f_tarmacref22_Rows : Nat := 45
theorem en_tarmacref22_Rows {args : List Value} {w : World} {R : Value → World → Prop} (hlen : Nat.ble args.length 46 = true) (h : SemW Tryz.prog 46 (Tryz.f45.body.getD .skip) (retQ tbl [.tmp 2] R) (argEnv 0 args) w) : Cl Tryz.prog 45 args w R :=
  Cl.enter tblOk Tryz.call45 Tryz.func45 Tryz.ntmps45 rfl Tryz.results45 hlen h
abbrev f_tarmacref22_flight : Nat := 46
theorem en_tarmacref22_flight {args : List Value} {w : World} {R : Value → World → Prop} (hlen : Nat.ble args.length 28 = true) (h : SemW Tryz.prog 28 (Tryz.f46.body.getD .skip) (retQ tbl [.tmp 2] R) (argEnv 0 args) w) : Cl Tryz.prog 46 args w R :=
  Cl.enter tblOk Tryz.call46 Tryz.func46 Tryz.ntmps46 rfl Tryz.results46 hlen h
abbrev f_tarmacref22_Pax : Nat := 47
theorem en_tarmacref22_Pax {args : List Value} {w : World} {R : Value → World → Prop} (hlen : Nat.ble args.length 53 = true) (h : SemW Tryz.prog 53 (Tryz.f47.body.getD .skip) (retQ tbl [.tmp 2] R) (argEnv 0 args) w) : Cl Tryz.prog 47 args w R :=
  Cl.enter tblOk Tryz.call47 Tryz.func47 Tryz.ntmps47 rfl Tryz.results47 hlen h
abbrev f_order_Key : Nat := 48
theorem en_order_Key {args : List Value} {w : World} {R : Value → World → Prop} (hlen : Nat.ble args.length 46 = true) (h : SemW Tryz.prog 46 (Tryz.f48.body.getD .skip) (retQ tbl [.tmp 2, .tmp 3] R) (argEnv 0 args) w) : Cl Tryz.prog 48 args w R :=
  Cl.enter tblOk Tryz.call48 Tryz.func48 Tryz.ntmps48 rfl Tryz.results48 hlen h
abbrev f_order_Text : Nat := 49
theorem en_order_Text {args : List Value} {w : World} {R : Value → World → Prop} (hlen : Nat.ble args.length 22 = true) (h : SemW Tryz.prog 22 (Tryz.f49.body.getD .skip) (retQ tbl [.tmp 2] R) (argEnv 0 args) w) : Cl Tryz.prog 49 args w R :=
  Cl.enter tblOk Tryz.call49 Tryz.func49 Tryz.ntmps49 rfl Tryz.results49 hlen h
abbrev f_order_Int : Nat := 50
theorem en_order_Int {args : List Value} {w : World} {R : Value → World → Prop} (hlen : Nat.ble args.length 22 = true) (h : SemW Tryz.prog 22 (Tryz.f50.body.getD .skip) (retQ tbl [.tmp 2] R) (argEnv 0 args) w) : Cl Tryz.prog 50 args w R :=
  Cl.enter tblOk Tryz.call50 Tryz.func50 Tryz.ntmps50 rfl Tryz.results50 hlen h
abbrev f_pack_New : Nat := 51
theorem en_pack_New {args : List Value} {w : World} {R : Value → World → Prop} (hlen : Nat.ble args.length 3 = true) (h : SemW Tryz.prog 3 (Tryz.f51.body.getD .skip) (retQ tbl [.tmp 0] R) (argEnv 0 args) w) : Cl Tryz.prog 51 args w R :=
  Cl.enter tblOk Tryz.call51 Tryz.func51 Tryz.ntmps51 rfl Tryz.results51 hlen h
abbrev f_pack_Writer_Num : Nat := 52
theorem en_pack_Writer_Num {args : List Value} {w : World} {R : Value → World → Prop} (hlen : Nat.ble args.length 28 = true) (h : SemW Tryz.prog 28 (Tryz.f52.body.getD .skip) (retQ tbl [] R) (argEnv 0 args) w) : Cl Tryz.prog 52 args w R :=
  Cl.enter tblOk Tryz.call52 Tryz.func52 Tryz.ntmps52 rfl Tryz.results52 hlen h
abbrev f_pack_Writer_Int : Nat := 53
theorem en_pack_Writer_Int {args : List Value} {w : World} {R : Value → World → Prop} (hlen : Nat.ble args.length 23 = true) (h : SemW Tryz.prog 23 (Tryz.f53.body.getD .skip) (retQ tbl [] R) (argEnv 0 args) w) : Cl Tryz.prog 53 args w R :=
  Cl.enter tblOk Tryz.call53 Tryz.func53 Tryz.ntmps53 rfl Tryz.results53 hlen h
abbrev f_rows_writer_marks : Nat := 54
theorem en_rows_writer_marks {args : List Value} {w : World} {R : Value → World → Prop} (hlen : Nat.ble args.length 26 = true) (h : SemW Tryz.prog 26 (Tryz.f54.body.getD .skip) (retQ tbl [] R) (argEnv 0 args) w) : Cl Tryz.prog 54 args w R :=
  Cl.enter tblOk Tryz.call54 Tryz.func54 Tryz.ntmps54 rfl Tryz.results54 hlen h
abbrev f_pack_Writer_Text : Nat := 55
theorem en_pack_Writer_Text {args : List Value} {w : World} {R : Value → World → Prop} (hlen : Nat.ble args.length 23 = true) (h : SemW Tryz.prog 23 (Tryz.f55.body.getD .skip) (retQ tbl [] R) (argEnv 0 args) w) : Cl Tryz.prog 55 args w R :=
  Cl.enter tblOk Tryz.call55 Tryz.func55 Tryz.ntmps55 rfl Tryz.results55 hlen h
abbrev f_pack_Writer_Bytes : Nat := 56
theorem en_pack_Writer_Bytes {args : List Value} {w : World} {R : Value → World → Prop} (hlen : Nat.ble args.length 8 = true) (h : SemW Tryz.prog 8 (Tryz.f56.body.getD .skip) (retQ tbl [.tmp 2] R) (argEnv 0 args) w) : Cl Tryz.prog 56 args w R :=
  Cl.enter tblOk Tryz.call56 Tryz.func56 Tryz.ntmps56 rfl Tryz.results56 hlen h
abbrev f_slices_insertionSortCmpFunc_api_Op : Nat := 57
theorem en_slices_insertionSortCmpFunc_api_Op {args : List Value} {w : World} {R : Value → World → Prop} (hlen : Nat.ble args.length 53 = true) (h : SemW Tryz.prog 53 (Tryz.f57.body.getD .skip) (retQ tbl [] R) (argEnv 0 args) w) : Cl Tryz.prog 57 args w R :=
  Cl.enter tblOk Tryz.call57 Tryz.func57 Tryz.ntmps57 rfl Tryz.results57 hlen h
abbrev f_slices_symMergeCmpFunc_api_Op : Nat := 58
theorem en_slices_symMergeCmpFunc_api_Op {args : List Value} {w : World} {R : Value → World → Prop} (hlen : Nat.ble args.length 220 = true) (h : SemW Tryz.prog 220 (Tryz.f58.body.getD .skip) (retQ tbl [] R) (argEnv 0 args) w) : Cl Tryz.prog 58 args w R :=
  Cl.enter tblOk Tryz.call58 Tryz.func58 Tryz.ntmps58 rfl Tryz.results58 hlen h
abbrev f_internal_bytealg_abigen_runtime_cmpstring : Nat := 59
theorem func_internal_bytealg_abigen_runtime_cmpstring : Tryz.prog.funcs[59]? = some Tryz.f59 := Tryz.func59
abbrev f_order_number : Nat := 60
theorem en_order_number {args : List Value} {w : World} {R : Value → World → Prop} (hlen : Nat.ble args.length 28 = true) (h : SemW Tryz.prog 28 (Tryz.f60.body.getD .skip) (retQ tbl [.cell 2 71, .tmp 3, .tmp 4] R) (argEnv 0 args) w) : Cl Tryz.prog 60 args w R :=
  Cl.enter tblOk Tryz.call60 Tryz.func60 Tryz.ntmps60 rfl Tryz.results60 hlen h
abbrev f_order_text : Nat := 61
theorem en_order_text {args : List Value} {w : World} {R : Value → World → Prop} (hlen : Nat.ble args.length 52 = true) (h : SemW Tryz.prog 52 (Tryz.f61.body.getD .skip) (retQ tbl [.cell 2 71, .tmp 3, .tmp 4] R) (argEnv 0 args) w) : Cl Tryz.prog 61 args w R :=
  Cl.enter tblOk Tryz.call61 Tryz.func61 Tryz.ntmps61 rfl Tryz.results61 hlen h
abbrev f_rows_reader_num : Nat := 62
theorem en_rows_reader_num {args : List Value} {w : World} {R : Value → World → Prop} (hlen : Nat.ble args.length 25 = true) (h : SemW Tryz.prog 25 (Tryz.f62.body.getD .skip) (retQ tbl [.tmp 2] R) (argEnv 0 args) w) : Cl Tryz.prog 62 args w R :=
  Cl.enter tblOk Tryz.call62 Tryz.func62 Tryz.ntmps62 rfl Tryz.results62 hlen h
abbrev f_rows_reader_int : Nat := 63
theorem en_rows_reader_int {args : List Value} {w : World} {R : Value → World → Prop} (hlen : Nat.ble args.length 25 = true) (h : SemW Tryz.prog 25 (Tryz.f63.body.getD .skip) (retQ tbl [.tmp 2] R) (argEnv 0 args) w) : Cl Tryz.prog 63 args w R :=
  Cl.enter tblOk Tryz.call63 Tryz.func63 Tryz.ntmps63 rfl Tryz.results63 hlen h
abbrev f_rows_reader_marks : Nat := 64
theorem en_rows_reader_marks {args : List Value} {w : World} {R : Value → World → Prop} (hlen : Nat.ble args.length 39 = true) (h : SemW Tryz.prog 39 (Tryz.f64.body.getD .skip) (retQ tbl [.tmp 4] R) (argEnv 0 args) w) : Cl Tryz.prog 64 args w R :=
  Cl.enter tblOk Tryz.call64 Tryz.func64 Tryz.ntmps64 rfl Tryz.results64 hlen h
abbrev f_rows_reader_text : Nat := 65
theorem en_rows_reader_text {args : List Value} {w : World} {R : Value → World → Prop} (hlen : Nat.ble args.length 25 = true) (h : SemW Tryz.prog 25 (Tryz.f65.body.getD .skip) (retQ tbl [.tmp 2] R) (argEnv 0 args) w) : Cl Tryz.prog 65 args w R :=
  Cl.enter tblOk Tryz.call65 Tryz.func65 Tryz.ntmps65 rfl Tryz.results65 hlen h
abbrev f_cabin_Parse : Nat := 66
theorem en_cabin_Parse {args : List Value} {w : World} {R : Value → World → Prop} (hlen : Nat.ble args.length 36 = true) (h : SemW Tryz.prog 36 (Tryz.f66.body.getD .skip) (retQ tbl [.cell 2 59, .tmp 3] R) (argEnv 0 args) w) : Cl Tryz.prog 66 args w R :=
  Cl.enter tblOk Tryz.call66 Tryz.func66 Tryz.ntmps66 rfl Tryz.results66 hlen h
abbrev f_cabin_between : Nat := 67
theorem en_cabin_between {args : List Value} {w : World} {R : Value → World → Prop} (hlen : Nat.ble args.length 15 = true) (h : SemW Tryz.prog 15 (Tryz.f67.body.getD .skip) (retQ tbl [.tmp 6] R) (argEnv 0 args) w) : Cl Tryz.prog 67 args w R :=
  Cl.enter tblOk Tryz.call67 Tryz.func67 Tryz.ntmps67 rfl Tryz.results67 hlen h
abbrev f_strconv_Itoa : Nat := 68
theorem en_strconv_Itoa {args : List Value} {w : World} {R : Value → World → Prop} (hlen : Nat.ble args.length 5 = true) (h : SemW Tryz.prog 5 (Tryz.f68.body.getD .skip) (retQ tbl [.tmp 2] R) (argEnv 0 args) w) : Cl Tryz.prog 68 args w R :=
  Cl.enter tblOk Tryz.call68 Tryz.func68 Tryz.ntmps68 rfl Tryz.results68 hlen h
abbrev f_tarmacref03_part : Nat := 69
theorem en_tarmacref03_part {args : List Value} {w : World} {R : Value → World → Prop} (hlen : Nat.ble args.length 80 = true) (h : SemW Tryz.prog 80 (Tryz.f69.body.getD .skip) (retQ tbl [.cell 4 71, .tmp 5] R) (argEnv 0 args) w) : Cl Tryz.prog 69 args w R :=
  Cl.enter tblOk Tryz.call69 Tryz.func69 Tryz.ntmps69 rfl Tryz.results69 hlen h
abbrev f_tarmacref03_Key : Nat := 70
theorem en_tarmacref03_Key {args : List Value} {w : World} {R : Value → World → Prop} (hlen : Nat.ble args.length 74 = true) (h : SemW Tryz.prog 74 (Tryz.f70.body.getD .skip) (retQ tbl [.tmp 2, .tmp 3] R) (argEnv 0 args) w) : Cl Tryz.prog 70 args w R :=
  Cl.enter tblOk Tryz.call70 Tryz.func70 Tryz.ntmps70 rfl Tryz.results70 hlen h
abbrev f_tarmacref01_Reader_Num : Nat := 71
theorem en_tarmacref01_Reader_Num {args : List Value} {w : World} {R : Value → World → Prop} (hlen : Nat.ble args.length 81 = true) (h : SemW Tryz.prog 81 (Tryz.f71.body.getD .skip) (retQ tbl [.tmp 2, .tmp 3] R) (argEnv 0 args) w) : Cl Tryz.prog 71 args w R :=
  Cl.enter tblOk Tryz.call71 Tryz.func71 Tryz.ntmps71 rfl Tryz.results71 hlen h
abbrev f_tarmacref01_Reader_Text : Nat := 72
theorem en_tarmacref01_Reader_Text {args : List Value} {w : World} {R : Value → World → Prop} (hlen : Nat.ble args.length 49 = true) (h : SemW Tryz.prog 49 (Tryz.f72.body.getD .skip) (retQ tbl [.tmp 2, .tmp 3] R) (argEnv 0 args) w) : Cl Tryz.prog 72 args w R :=
  Cl.enter tblOk Tryz.call72 Tryz.func72 Tryz.ntmps72 rfl Tryz.results72 hlen h
abbrev f_tarmacref01_Unfold : Nat := 73
theorem en_tarmacref01_Unfold {args : List Value} {w : World} {R : Value → World → Prop} (hlen : Nat.ble args.length 14 = true) (h : SemW Tryz.prog 14 (Tryz.f73.body.getD .skip) (retQ tbl [.tmp 2] R) (argEnv 0 args) w) : Cl Tryz.prog 73 args w R :=
  Cl.enter tblOk Tryz.call73 Tryz.func73 Tryz.ntmps73 rfl Tryz.results73 hlen h
abbrev f_tarmacref13_Parse : Nat := 74
theorem en_tarmacref13_Parse {args : List Value} {w : World} {R : Value → World → Prop} (hlen : Nat.ble args.length 33 = true) (h : SemW Tryz.prog 33 (Tryz.f74.body.getD .skip) (retQ tbl [.cell 2 59, .tmp 3] R) (argEnv 0 args) w) : Cl Tryz.prog 74 args w R :=
  Cl.enter tblOk Tryz.call74 Tryz.func74 Tryz.ntmps74 rfl Tryz.results74 hlen h
abbrev f_tarmacref13_Label : Nat := 75
theorem en_tarmacref13_Label {args : List Value} {w : World} {R : Value → World → Prop} (hlen : Nat.ble args.length 29 = true) (h : SemW Tryz.prog 29 (Tryz.f75.body.getD .skip) (retQ tbl [.tmp 2] R) (argEnv 0 args) w) : Cl Tryz.prog 75 args w R :=
  Cl.enter tblOk Tryz.call75 Tryz.func75 Tryz.ntmps75 rfl Tryz.results75 hlen h
abbrev f_tarmacref01_Num : Nat := 76
theorem en_tarmacref01_Num {args : List Value} {w : World} {R : Value → World → Prop} (hlen : Nat.ble args.length 21 = true) (h : SemW Tryz.prog 21 (Tryz.f76.body.getD .skip) (retQ tbl [.tmp 2] R) (argEnv 0 args) w) : Cl Tryz.prog 76 args w R :=
  Cl.enter tblOk Tryz.call76 Tryz.func76 Tryz.ntmps76 rfl Tryz.results76 hlen h
abbrev f_tarmacref01_Int : Nat := 77
theorem en_tarmacref01_Int {args : List Value} {w : World} {R : Value → World → Prop} (hlen : Nat.ble args.length 6 = true) (h : SemW Tryz.prog 6 (Tryz.f77.body.getD .skip) (retQ tbl [.tmp 2] R) (argEnv 0 args) w) : Cl Tryz.prog 77 args w R :=
  Cl.enter tblOk Tryz.call77 Tryz.func77 Tryz.ntmps77 rfl Tryz.results77 hlen h
abbrev f_tarmacref22_bit : Nat := 78
theorem en_tarmacref22_bit {args : List Value} {w : World} {R : Value → World → Prop} (hlen : Nat.ble args.length 7 = true) (h : SemW Tryz.prog 7 (Tryz.f78.body.getD .skip) (retQ tbl [.tmp 4] R) (argEnv 0 args) w) : Cl Tryz.prog 78 args w R :=
  Cl.enter tblOk Tryz.call78 Tryz.func78 Tryz.ntmps78 rfl Tryz.results78 hlen h
abbrev f_tarmacref01_Text : Nat := 79
theorem en_tarmacref01_Text {args : List Value} {w : World} {R : Value → World → Prop} (hlen : Nat.ble args.length 9 = true) (h : SemW Tryz.prog 9 (Tryz.f79.body.getD .skip) (retQ tbl [.tmp 2] R) (argEnv 0 args) w) : Cl Tryz.prog 79 args w R :=
  Cl.enter tblOk Tryz.call79 Tryz.func79 Tryz.ntmps79 rfl Tryz.results79 hlen h
abbrev f_tarmacref22_label : Nat := 80
theorem en_tarmacref22_label {args : List Value} {w : World} {R : Value → World → Prop} (hlen : Nat.ble args.length 8 = true) (h : SemW Tryz.prog 8 (Tryz.f80.body.getD .skip) (retQ tbl [.tmp 2] R) (argEnv 0 args) w) : Cl Tryz.prog 80 args w R :=
  Cl.enter tblOk Tryz.call80 Tryz.func80 Tryz.ntmps80 rfl Tryz.results80 hlen h
abbrev f_order_builder_number : Nat := 81
theorem en_order_builder_number {args : List Value} {w : World} {R : Value → World → Prop} (hlen : Nat.ble args.length 26 = true) (h : SemW Tryz.prog 26 (Tryz.f81.body.getD .skip) (retQ tbl [] R) (argEnv 0 args) w) : Cl Tryz.prog 81 args w R :=
  Cl.enter tblOk Tryz.call81 Tryz.func81 Tryz.ntmps81 rfl Tryz.results81 hlen h
abbrev f_order_builder_text : Nat := 82
theorem en_order_builder_text {args : List Value} {w : World} {R : Value → World → Prop} (hlen : Nat.ble args.length 18 = true) (h : SemW Tryz.prog 18 (Tryz.f82.body.getD .skip) (retQ tbl [] R) (argEnv 0 args) w) : Cl Tryz.prog 82 args w R :=
  Cl.enter tblOk Tryz.call82 Tryz.func82 Tryz.ntmps82 rfl Tryz.results82 hlen h
abbrev f_strings_Builder_String : Nat := 83
theorem en_strings_Builder_String {args : List Value} {w : World} {R : Value → World → Prop} (hlen : Nat.ble args.length 14 = true) (h : SemW Tryz.prog 14 (Tryz.f83.body.getD .skip) (retQ tbl [.tmp 2] R) (argEnv 0 args) w) : Cl Tryz.prog 83 args w R :=
  Cl.enter tblOk Tryz.call83 Tryz.func83 Tryz.ntmps83 rfl Tryz.results83 hlen h
abbrev f_pack_Writer_add : Nat := 84
theorem en_pack_Writer_add {args : List Value} {w : World} {R : Value → World → Prop} (hlen : Nat.ble args.length 24 = true) (h : SemW Tryz.prog 24 (Tryz.f84.body.getD .skip) (retQ tbl [] R) (argEnv 0 args) w) : Cl Tryz.prog 84 args w R :=
  Cl.enter tblOk Tryz.call84 Tryz.func84 Tryz.ntmps84 rfl Tryz.results84 hlen h
abbrev f_slices_rotateCmpFunc_api_Op : Nat := 85
theorem en_slices_rotateCmpFunc_api_Op {args : List Value} {w : World} {R : Value → World → Prop} (hlen : Nat.ble args.length 58 = true) (h : SemW Tryz.prog 58 (Tryz.f85.body.getD .skip) (retQ tbl [] R) (argEnv 0 args) w) : Cl Tryz.prog 85 args w R :=
  Cl.enter tblOk Tryz.call85 Tryz.func85 Tryz.ntmps85 rfl Tryz.results85 hlen h
abbrev f_pack_Reader_Num : Nat := 86
theorem en_pack_Reader_Num {args : List Value} {w : World} {R : Value → World → Prop} (hlen : Nat.ble args.length 59 = true) (h : SemW Tryz.prog 59 (Tryz.f86.body.getD .skip) (retQ tbl [.tmp 2, .tmp 3] R) (argEnv 0 args) w) : Cl Tryz.prog 86 args w R :=
  Cl.enter tblOk Tryz.call86 Tryz.func86 Tryz.ntmps86 rfl Tryz.results86 hlen h
abbrev f_pack_Reader_Int : Nat := 87
theorem en_pack_Reader_Int {args : List Value} {w : World} {R : Value → World → Prop} (hlen : Nat.ble args.length 20 = true) (h : SemW Tryz.prog 20 (Tryz.f87.body.getD .skip) (retQ tbl [.tmp 2, .tmp 3] R) (argEnv 0 args) w) : Cl Tryz.prog 87 args w R :=
  Cl.enter tblOk Tryz.call87 Tryz.func87 Tryz.ntmps87 rfl Tryz.results87 hlen h
abbrev f_pack_Reader_Text : Nat := 88
theorem en_pack_Reader_Text {args : List Value} {w : World} {R : Value → World → Prop} (hlen : Nat.ble args.length 49 = true) (h : SemW Tryz.prog 49 (Tryz.f88.body.getD .skip) (retQ tbl [.tmp 2, .tmp 3] R) (argEnv 0 args) w) : Cl Tryz.prog 88 args w R :=
  Cl.enter tblOk Tryz.call88 Tryz.func88 Tryz.ntmps88 rfl Tryz.results88 hlen h
abbrev f_strconv_Atoi : Nat := 89
theorem en_internal_strconv_Itoa {args : List Value} {w : World} {R : Value → World → Prop} (hlen : Nat.ble args.length 5 = true) (h : SemW Tryz.prog 5 (Tryz.f90.body.getD .skip) (retQ tbl [.tmp 2] R) (argEnv 0 args) w) : Cl Tryz.prog 90 args w R :=
  Cl.enter tblOk Tryz.call90 Tryz.func90 Tryz.ntmps90 rfl Tryz.results90 hlen h
abbrev f_tarmacref03_Right : Nat := 91
theorem en_tarmacref03_Right {args : List Value} {w : World} {R : Value → World → Prop} (hlen : Nat.ble args.length 21 = true) (h : SemW Tryz.prog 21 (Tryz.f91.body.getD .skip) (retQ tbl [.tmp 2] R) (argEnv 0 args) w) : Cl Tryz.prog 91 args w R :=
  Cl.enter tblOk Tryz.call91 Tryz.func91 Tryz.ntmps91 rfl Tryz.results91 hlen h
abbrev f_tarmacref01_Fold : Nat := 92
theorem en_tarmacref01_Fold {args : List Value} {w : World} {R : Value → World → Prop} (hlen : Nat.ble args.length 14 = true) (h : SemW Tryz.prog 14 (Tryz.f92.body.getD .skip) (retQ tbl [.tmp 2] R) (argEnv 0 args) w) : Cl Tryz.prog 92 args w R :=
  Cl.enter tblOk Tryz.call92 Tryz.func92 Tryz.ntmps92 rfl Tryz.results92 hlen h
abbrev f_strings_Builder_WriteByte : Nat := 93
theorem en_strings_Builder_WriteByte {args : List Value} {w : World} {R : Value → World → Prop} (hlen : Nat.ble args.length 17 = true) (h : SemW Tryz.prog 17 (Tryz.f93.body.getD .skip) (retQ tbl [.tmp 4] R) (argEnv 0 args) w) : Cl Tryz.prog 93 args w R :=
  Cl.enter tblOk Tryz.call93 Tryz.func93 Tryz.ntmps93 rfl Tryz.results93 hlen h
abbrev f_strings_Builder_WriteString : Nat := 94
theorem en_strings_Builder_WriteString {args : List Value} {w : World} {R : Value → World → Prop} (hlen : Nat.ble args.length 19 = true) (h : SemW Tryz.prog 19 (Tryz.f94.body.getD .skip) (retQ tbl [.tmp 4, .tmp 5] R) (argEnv 0 args) w) : Cl Tryz.prog 94 args w R :=
  Cl.enter tblOk Tryz.call94 Tryz.func94 Tryz.ntmps94 rfl Tryz.results94 hlen h
abbrev f_strings_ReplaceAll : Nat := 95
theorem en_strings_ReplaceAll {args : List Value} {w : World} {R : Value → World → Prop} (hlen : Nat.ble args.length 11 = true) (h : SemW Tryz.prog 11 (Tryz.f95.body.getD .skip) (retQ tbl [.tmp 6] R) (argEnv 0 args) w) : Cl Tryz.prog 95 args w R :=
  Cl.enter tblOk Tryz.call95 Tryz.func95 Tryz.ntmps95 rfl Tryz.results95 hlen h
abbrev f_slices_swapRangeCmpFunc_api_Op : Nat := 96
theorem en_slices_swapRangeCmpFunc_api_Op {args : List Value} {w : World} {R : Value → World → Prop} (hlen : Nat.ble args.length 38 = true) (h : SemW Tryz.prog 38 (Tryz.f96.body.getD .skip) (retQ tbl [] R) (argEnv 0 args) w) : Cl Tryz.prog 96 args w R :=
  Cl.enter tblOk Tryz.call96 Tryz.func96 Tryz.ntmps96 rfl Tryz.results96 hlen h
theorem en_internal_strconv_FormatInt {args : List Value} {w : World} {R : Value → World → Prop} (hlen : Nat.ble args.length 54 = true) (h : SemW Tryz.prog 54 (Tryz.f99.body.getD .skip) (retQ tbl [.tmp 4] R) (argEnv 0 args) w) : Cl Tryz.prog 99 args w R :=
  Cl.enter tblOk Tryz.call99 Tryz.func99 Tryz.ntmps99 rfl Tryz.results99 hlen h
abbrev f_strings_Builder_copyCheck : Nat := 100
theorem en_strings_Builder_copyCheck {args : List Value} {w : World} {R : Value → World → Prop} (hlen : Nat.ble args.length 20 = true) (h : SemW Tryz.prog 20 (Tryz.f100.body.getD .skip) (retQ tbl [] R) (argEnv 0 args) w) : Cl Tryz.prog 100 args w R :=
  Cl.enter tblOk Tryz.call100 Tryz.func100 Tryz.ntmps100 rfl Tryz.results100 hlen h
theorem en_strings_Replace {args : List Value} {w : World} {R : Value → World → Prop} (hlen : Nat.ble args.length 104 = true) (h : SemW Tryz.prog 104 (Tryz.f101.body.getD .skip) (retQ tbl [.tmp 8] R) (argEnv 0 args) w) : Cl Tryz.prog 101 args w R :=
  Cl.enter tblOk Tryz.call101 Tryz.func101 Tryz.ntmps101 rfl Tryz.results101 hlen h
abbrev f_internal_strconv_small : Nat := 107
theorem en_internal_strconv_small {args : List Value} {w : World} {R : Value → World → Prop} (hlen : Nat.ble args.length 15 = true) (h : SemW Tryz.prog 15 (Tryz.f107.body.getD .skip) (retQ tbl [.tmp 2] R) (argEnv 0 args) w) : Cl Tryz.prog 107 args w R :=
  Cl.enter tblOk Tryz.call107 Tryz.func107 Tryz.ntmps107 rfl Tryz.results107 hlen h
abbrev f_internal_abi_NoEscape : Nat := 111
theorem func_internal_abi_NoEscape : Tryz.prog.funcs[111]? = some Tryz.f111 := Tryz.func111
theorem en_strings_Count {args : List Value} {w : World} {R : Value → World → Prop} (hlen : Nat.ble args.length 34 = true) (h : SemW Tryz.prog 34 (Tryz.f112.body.getD .skip) (retQ tbl [.tmp 4] R) (argEnv 0 args) w) : Cl Tryz.prog 112 args w R :=
  Cl.enter tblOk Tryz.call112 Tryz.func112 Tryz.ntmps112 rfl Tryz.results112 hlen h
abbrev f_internal_bytealg_CountString : Nat := 125
theorem func_internal_bytealg_CountString : Tryz.prog.funcs[125]? = some Tryz.f125 := Tryz.func125
end Go.Proofs.YtinkmidjbdnibaaGreatDoor
namespace Go.Proofs.YtinkmidjbdnibaaGreatDoor
open Go Go.Eng Go.Proofs
open Go.ChangeShapes Go.WideShapes Go.ChangeAt Go.RowKit
theorem ownTry : ownKnob Tryz.prog.godebug = none := by kernel_rfl
theorem laidTry : laidOutB Tryz.prog = true := by kernel_rfl
theorem calls_of_cl {P : Program} {f : FuncId} {args : List Value} {w : World} {R : Value → World → Prop} (hc : ∀ (args : Array Value) (w : World), (callFunc f args).run P w = .ok (.enter f args) w)
    (h : Cl P f args w R) : Calls P f ⟨args⟩ w fun e w' => ∃ v, e = .returned v ∧ R v w' := by
  rcases h with ⟨_, h⟩ | ⟨v, w', h, _⟩
  · exact h
  · rw [hc] at h; cases h
theorem St.below {w w' : World} (h : St w [] [] w') : Below w.heap.size w w' := ⟨h.os, h.tape, h.output, h.size, fun k hk => h.old k hk (by simp)⟩
theorem trodAll_below {H : Type} {enc : TypeId × Value → H} {P : Program} (hl : laidOutB P = true) {W W' : World} (hb : Below W.heap.size W W') : ∀ {ts : List TypeId} {vs : List Value} {ds : List (DataW H)} {ps : List MemPlace},
    (ts.all fun t => P.readableRec t && decide (t < P.types.size)) = true → (∀ x ∈ ps, x.block < W.heap.size) → DataW.TrodAll enc P W 0 (fun _ => true) true ts vs ds ps →
    DataW.TrodAll enc P W' 0 (fun b => decide (b < W.heap.size)) true ts vs ds ps
  | [], [], [], _, _, _, h => h
  | t :: ts, v :: vs, d :: ds, ps, ht, hlt, ⟨p, q, h1, h2, e⟩ => by
    subst e
    simp only [List.all_cons, Bool.and_eq_true, decide_eq_true_eq] at ht
    exact ⟨p, q, Below.trod hl ht.1.1 ht.1.2 h1 hb (fun x hx => hlt x (by simp [hx])), trodAll_below hl hb (by simpa using ht.2) (fun x hx => hlt x (by simp [hx])) h2, rfl⟩
  | [], [], _ :: _, _, _, _, h => h.elim
  | [], _ :: _, _, _, _, _, h => h.elim
  | _ :: _, [], _, _, _, _, h => h.elim
  | _ :: _, _ :: _, [], _, _, _, h => h.elim
theorem post_true {H : Type} {enc : TypeId × Value → H} {P : Program} {f : Func} {s : ChangeSpec} {W W' : World} {args : Array Value} {ds gs : List (DataW H)} {before : List MemPlace} (hl : laidOutB P = true)
    (hts : (f.params.toList.all fun t => P.readableRec t && decide (t < P.types.size)) = true) {tb : TypeId} (hrt : f.resultTypes = #[tb]) (hb : P.underlying tb = some .bool)
    (hW : DataW.Whole enc P f.params.toList s.vars false W args.toList ds gs before) (hv : s.vars = []) (hfn : gs = [] → s.fn H (ds ++ gs) = { results := [.lit (.bool true)], args := ds }) (hst : St W [] [] W') :
    s.post enc P f false true false false W args (.bool true) W' := by
  have hW' := hW
  obtain ⟨p, q, hA, hV, rfl, _, _⟩ := hW
  rw [hv] at hV
  obtain ⟨rfl, rfl⟩ := trodVars_none hV
  have hlt : ∀ x ∈ p, x.block < W.heap.size := fun x hx => by have := hW'.lt x (by simp [hx]); simpa using this
  refine ⟨ds, [], _, [], p, [], hW', ?_, ?_, ?_, (St.below hst).frame _, fun h => by cases h⟩
  · rw [hfn rfl, hrt]
    exact trodAll_mk1 (shut_bool hb _)
  · rw [hfn rfl]
    exact trodAll_below hl (St.below hst) hts hlt hA
  · rw [hfn rfl, hv]
    rfl
theorem Str_of (s : ByteArray) : Value.string s = Str s.data.toList := by
  cases s; rfl
theorem bulk1 {H : Type} {d1 : DataW H} (h : Rows.uptoSmall H [d1] = true) : Rows.uptoBulk d1 ≤ 1048576 := by
  have h : Rows.uptoBulkAll [d1] ≤ 1048576 := of_decide_eq_true h
  simp only [Rows.uptoBulkAll] at h; omega
abbrev CellR (β : Type) := World → List Value → β → Prop
structure Opens (P : Program) (t : TypeId) {β : Type} (R : CellR β) (bulk : β → Nat) : Prop where
  out : ∀ {H : Type} {enc : TypeId × Value → H} {W : World} {fuel : Nat} {cs : List Value} {x : DataW H × List MemPlace}, DataW.trod enc P W 0 (fun _ => true) true fuel t cs = some x → ∃ b, R W cs b ∧ bulk b ≤ Rows.uptoBulk x.1
def RStr : CellR Bytes := fun _ cs s => cs = [Str s] ∧ s.length ≤ maxLen
def RInt (k : IntKind) : CellR Int := fun _ cs n => cs = [.int k n] ∧ (Lit.int k n).wf = true
def RBool : CellR Bool := fun _ cs b => cs = [.bool b]
structure RSl {β : Type} (sz : Nat) (R : CellR β) (W : World) (cs : List Value) (xs : List β) : Prop where
  ex : ∃ (a : Option Addr) (cap : Nat), cs = [.slice a xs.length cap] ∧ xs.length ≤ cap ∧ True ∧
    ∀ j (h : j < xs.length), ∃ b off cs', a = some ⟨b, off, none⟩ ∧ cs'.length = sz ∧ (∀ i v, cs'[i]? = some v → W.cell? ⟨b, off + (j * sz + i), none⟩ = some v) ∧ R W cs' xs[j]
def RPair {α β : Type} (n : Nat) (R : CellR α) (S : CellR β) : CellR (α × β) := fun W cs x => R W (cs.take n) x.1 ∧ S W (cs.drop n) x.2
theorem Opens.str {P : Program} {t : TypeId} (ht : P.underlying t = some .string) : Opens P t RStr (fun s => s.length + 1) := by
  refine ⟨fun {H enc W fuel cs x} h => ?_⟩
  obtain ⟨s, rfl, rfl, hs⟩ := DataW.trod_string ht h
  exact ⟨s.data.toList, ⟨by rw [Str_of], by rw [Array.length_toList]; exact hs⟩, Nat.le_refl _⟩
theorem Opens.int {P : Program} {t : TypeId} {k : IntKind} (ht : P.underlying t = some (.int k)) : Opens P t (RInt k) (fun _ => 1) := by
  refine ⟨fun {H enc W fuel cs x} h => ?_⟩
  obtain ⟨n, rfl, rfl, hs⟩ := DataW.trod_int ht h
  exact ⟨n, ⟨rfl, hs⟩, Nat.le_refl _⟩
theorem Opens.bool {P : Program} {t : TypeId} (ht : P.underlying t = some .bool) : Opens P t RBool (fun _ => 1) := by
  refine ⟨fun {H enc W fuel cs x} h => ?_⟩
  obtain ⟨n, rfl, rfl⟩ := DataW.trod_bool ht h
  exact ⟨n, rfl, Nat.le_refl _⟩
theorem bulk_range {H : Type} {β : Type} (bulk : β → Nat) : ∀ (xs : List β) (D : Nat → DataW H), (∀ j (h : j < xs.length), bulk xs[j] ≤ Rows.uptoBulk (D j)) → (xs.map bulk).sum ≤ Rows.uptoBulkAll ((List.range xs.length).map D)
  | [], _, _ => by simp
  | x :: r, D, h => by
    have ih := bulk_range bulk r (fun j => D (j + 1)) (fun j hj => h (j + 1) (by simpa using hj))
    have h0 := h 0 (by simp)
    rw [List.length_cons, List.range_succ_eq_map, List.map_cons, List.map_cons, List.map_map, List.sum_cons]
    simp only [Rows.uptoBulkAll]
    have : Function.comp D Nat.succ = fun j => D (j + 1) := rfl
    rw [this]
    simp only [List.getElem_cons_zero] at h0
    omega
theorem Opens.slice {P : Program} {t e : TypeId} {β : Type} {R : CellR β} {bulk : β → Nat} (ht : P.underlying t = some (.slice e)) {sz : Nat} (hc : P.cellsOf e = sz) (h0 : 0 < sz) (he : Opens P e R bulk) :
    Opens P t (RSl sz R) (fun xs => (xs.map bulk).sum + 1) := by
  refine ⟨fun {H enc W fuel cs x} h => ?_⟩
  rcases Go.Deep.open_slice ht h with ⟨rfl, rfl⟩ | ⟨a, len, cap, m, n, D, Pl, rfl, -, hl, hm, hmm, rfl, hx⟩
  · exact ⟨[], ⟨none, 0, rfl, Nat.le_refl _, by decide, fun j h => by simp at h⟩, by simp [Rows.uptoBulk]⟩
  rw [if_pos rfl] at hmm
  subst hmm
  rw [hc] at hx
  have hall : ∀ i, i < len → ∃ b : β, (∃ cs', W.cells? 0 (a.add (i * sz)) sz = some cs' ∧ R W cs' b) ∧ bulk b ≤ Rows.uptoBulk (D i) := by
    intro i hi
    obtain ⟨cs', h1, h2⟩ := hx i (by omega)
    obtain ⟨b, h3, h4⟩ := he.out h2
    exact ⟨b, ⟨cs', h1, h3⟩, h4⟩
  have hxs : ∃ xs : List β, xs.length = len ∧ ∀ i (hi : i < xs.length), (∃ cs', W.cells? 0 (a.add (i * sz)) sz = some cs' ∧ R W cs' xs[i]) ∧ bulk xs[i] ≤ Rows.uptoBulk (D i) := by
    clear h hx hl hm
    induction len with
    | zero => exact ⟨[], rfl, fun i hi => by simp at hi⟩
    | succ k ih =>
      obtain ⟨xs, hxl, hxs⟩ := ih (fun i hi => hall i (by omega))
      obtain ⟨b, hb⟩ := hall k (by omega)
      refine ⟨xs ++ [b], by simp [hxl], fun i hi => ?_⟩
      by_cases hik : i < xs.length
      · rw [List.getElem_append_left hik]; exact hxs i hik
      · have : i = k := by simp at hi; omega
        subst this
        rw [List.getElem_append_right (by omega)]
        simpa [hxl] using hb
  obtain ⟨xs, rfl, hxs⟩ := hxs
  refine ⟨xs, ⟨some a, _, rfl, hl, trivial, fun j hj => ?_⟩, ?_⟩
  · obtain ⟨⟨cs', h1, h2⟩, -⟩ := hxs j hj
    obtain ⟨_, h3, h4⟩ := World.cells?_some h1
    obtain ⟨b, off, spot⟩ := a
    have hcell : ∀ i v, cs'[i]? = some v → W.cell? ((Addr.mk b off spot).add (j * sz + i)) = some v := by
      intro i v hv
      have := h4 i (by have := (List.getElem?_eq_some_iff.1 hv).1; omega)
      rw [hv] at this
      rwa [Go.Deep.add_add] at this
    have hspot : spot = none := by
      obtain ⟨⟨cs0, k1, -⟩, -⟩ := hxs 0 (by omega)
      obtain ⟨_, k3, k4⟩ := World.cells?_some k1
      have := k4 0 h0
      rw [List.getElem?_eq_getElem (show 0 < cs0.length by omega)] at this
      simpa [Addr.add] using World.cell?_spot this
    subst hspot
    refine ⟨b, off, cs', rfl, h3, fun i v hv => ?_, h2⟩
    have := hcell i v hv
    rwa [add_plain] at this
  · have := bulk_range bulk xs D (fun j hj => (hxs j hj).2)
    simp only [Rows.uptoBulk]
    omega
structure OpensFs (P : Program) (o : Nat) (fs : List Field) (sz : Nat) {β : Type} (R : CellR β) (bulk : β → Nat) : Prop where
  out : ∀ {H : Type} {enc : TypeId × Value → H} {W : World} {fuel : Nat} {cs : List Value} {xs : List (DataW H × List MemPlace)}, cs.length = sz → xs.length = fs.length →
    (∀ (i : Nat) (f : Field), fs[i]? = some f → DataW.trod enc P W 0 (fun _ => true) true fuel f.type ((cs.drop f.offset).take (P.cellsOf f.type)) = xs[i]?) → ∃ b, R W (cs.drop o) b ∧ bulk b ≤ Rows.uptoBulkAll (xs.map (·.1))
def RNil : CellR Unit := fun _ cs _ => cs = []
theorem OpensFs.nil {P : Program} {sz : Nat} : OpensFs P sz [] sz RNil (fun _ => 0) := by
  refine ⟨fun {H enc W fuel cs xs} h1 h2 h3 => ?_⟩
  refine ⟨(), ?_, Nat.zero_le _⟩
  show cs.drop sz = []
  rw [List.drop_eq_nil_iff]; omega
theorem OpensFs.cons {P : Program} {o s sz : Nat} {f : Field} {fs : List Field} {α β : Type} {R : CellR α} {S : CellR β} {b0 : α → Nat} {b1 : β → Nat} (ho : f.offset = o) (hc : P.cellsOf f.type = s) (h0 : Opens P f.type R b0) (h1 : OpensFs P (o + s) fs sz S b1) :
    OpensFs P o (f :: fs) sz (RPair s R S) (fun x => b0 x.1 + b1 x.2) := by
  refine ⟨fun {H enc W fuel cs xs} hl hx h => ?_⟩
  match xs, hx with
  | x :: xs, hx =>
    have e0 := h 0 f rfl
    rw [ho, hc] at e0
    obtain ⟨a, g0, g1⟩ := h0.out e0
    obtain ⟨b, g2, g3⟩ := h1.out hl (by simpa using hx) (fun i f' hf => by simpa using h (i + 1) f' (by simpa using hf))
    refine ⟨(a, b), ⟨g0, by rw [List.drop_drop]; exact g2⟩, ?_⟩
    simp only [List.map_cons, Rows.uptoBulkAll]
    omega
theorem Opens.struct {P : Program} {t : TypeId} {fs : List Field} {sz : Nat} {β : Type} {R : CellR β} {bulk : β → Nat} (ht : P.underlying t = some (.struct ⟨fs⟩)) (ct : P.cellsOf t = sz) (h : OpensFs P 0 fs sz R bulk) : Opens P t R (fun x => bulk x + 1) := by
  refine ⟨fun {H enc W fuel cs x} hx => ?_⟩
  obtain ⟨xs, n, -, rfl, hl, hxl, hx⟩ := DataW.trod_struct ht hx
  obtain ⟨b, g0, g1⟩ := h.out (by rw [hl, ct]) (by simpa using hxl) (fun i f hf => hx i f (by simpa using hf))
  refine ⟨b, by simpa using g0, ?_⟩
  simp only [Rows.uptoBulk]; omega
theorem RSl.inv {β : Type} {sz : Nat} {R : CellR β} {W : World} {v : Value} {xs : List β} (h : RSl sz R W [v] xs) : ∃ (a : Option Addr) (cap : Nat), v = .slice a xs.length cap ∧ xs.length ≤ cap ∧ True ∧ RSl sz R W [.slice a xs.length cap] xs := by
  obtain ⟨a, cap, h1, h2, h3, h4⟩ := h.ex
  refine ⟨a, cap, by simpa using h1, h2, h3, ⟨a, cap, rfl, h2, h3, h4⟩⟩
theorem RSl.get {β : Type} {R : CellR β} {W : World} {a : Option Addr} {n cap : Nat} {xs : List β} (h : RSl 1 R W [.slice a n cap] xs) {j : Nat} (hj : j < xs.length) : ∃ b off v, a = some ⟨b, off, none⟩ ∧ W.cell? ⟨b, off + j, none⟩ = some v ∧ R W [v] xs[j] := by
  obtain ⟨a', cap', h1, -, -, h4⟩ := h.ex
  obtain ⟨b, off, cs, h5, h6, h7, h8⟩ := h4 j hj
  have : a = a' := by simpa using (List.cons.inj h1).1 |> fun h => (Value.slice.inj h).1
  subst this
  match cs, h6 with
  | [v], _ => exact ⟨b, off, v, h5, by simpa using h7 0 v rfl, h8⟩
theorem Trod.out {H : Type} {enc : TypeId × Value → H} {P : Program} {W : World} {t : TypeId} {v : Value} {d : DataW H} {p : List MemPlace} (hd : DataW.Trod enc P W 0 (fun _ => true) true t v d p) {β : Type} {R : CellR β} {bulk : β → Nat} (h : Opens P t R bulk) :
    ∃ b, R W v.cells.toList b ∧ bulk b ≤ Rows.uptoBulk d := by
  obtain ⟨fuel, hf⟩ := hd
  exact h.out hf
end Go.Proofs.YtinkmidjbdnibaaGreatDoor
namespace Go.Proofs.YtinkmidjbdnibaaGreatDoor
open Go Go.Eng Go.Proofs
theorem RSl.at {β : Type} {sz : Nat} {R : CellR β} {W : World} {a : Option Addr} {n cap : Nat} {xs : List β} (h : RSl sz R W [.slice a n cap] xs) {j : Nat} (hj : j < xs.length) :
    ∃ b off cs, a = some ⟨b, off, none⟩ ∧ cs.length = sz ∧ (∀ i v, cs[i]? = some v → W.cell? ⟨b, off + (j * sz + i), none⟩ = some v) ∧ R W cs xs[j] := by
  obtain ⟨a', cap', h1, -, -, h4⟩ := h.ex
  have : a = a' := by simpa using (List.cons.inj h1).1 |> fun h => (Value.slice.inj h).1
  subst this
  exact h4 j hj
theorem RSl.keep {β : Type} {sz : Nat} {R : CellR β} {w0 w : World} {H : Heap} (hS : St w0 [] H w) (hR : ∀ cs x, R w0 cs x → R w cs x) {cs : List Value} {xs : List β} (h : RSl sz R w0 cs xs) : RSl sz R w cs xs := by
  obtain ⟨a, cap, h1, h2, h3, h4⟩ := h.ex
  refine ⟨a, cap, h1, h2, h3, fun j hj => ?_⟩
  obtain ⟨b, off, cs', h5, h6, h7, h8⟩ := h4 j hj
  exact ⟨b, off, cs', h5, h6, fun i v hv => hS.oldCell (by simp) (h7 i v hv), hR _ _ h8⟩
theorem RSl.ldn {β : Type} {sz : Nat} {R : CellR β} {w0 w : World} {H : Heap} (hS : St w0 [] H w) {a : Option Addr} {n cap : Nat} {xs : List β} (h : RSl sz R w0 [.slice a n cap] xs) {j : Nat} (hj : j < xs.length) :
    ∃ b off cs, a = some ⟨b, off, none⟩ ∧ R w0 cs xs[j] ∧ ∀ K : List Value → Prop, K cs → LdN (fun w' => w = w') sz b (off + j * sz) K := by
  obtain ⟨b, off, cs, h1, h2, h3, h4⟩ := h.at hj
  refine ⟨b, off, cs, h1, h4, fun K hK => ⟨⟨cs, h2, fun _ e i v hv => ?_, hK⟩⟩⟩
  subst e
  have := hS.oldCell (by simp) (h3 i v hv)
  rw [← Nat.add_assoc] at this
  exact this
theorem RSl.ldnC {β : Type} {sz : Nat} {R : CellR β} {w0 : World} {a : Option Addr} {n cap : Nat} {xs : List β} (h : RSl sz R w0 [.slice a n cap] xs) {j : Nat} (hj : j < xs.length) :
    ∃ b off cs, a = some ⟨b, off, none⟩ ∧ R w0 cs xs[j] ∧ ∀ K : List Value → Prop, K cs → LdN (fun w' => St w0 [] [] w') sz b (off + j * sz) K := by
  obtain ⟨b, off, cs, h1, h2, h3, h4⟩ := h.at hj
  refine ⟨b, off, cs, h1, h4, fun K hK => ⟨⟨cs, h2, fun _ e i v hv => ?_, hK⟩⟩⟩
  have := e.oldCell (by simp) (h3 i v hv)
  rw [← Nat.add_assoc] at this
  exact this
theorem RSl.mem {β : Type} {sz : Nat} {R : CellR β} {W : World} {v : Value} {xs : List β} (h : RSl sz R W [v] xs) {x : β} (hx : x ∈ xs) : ∃ cs, R W cs x := by
  obtain ⟨a, cap, -, -, -, h4⟩ := h.ex
  obtain ⟨i, hi, rfl⟩ := List.mem_iff_getElem.1 hx
  obtain ⟨b, off, cs, -, -, -, h8⟩ := h4 i hi
  exact ⟨cs, h8⟩
theorem Opens.map {P : Program} {t : TypeId} {β γ : Type} {R : CellR β} {S : CellR γ} {bk : β → Nat} {bk' : γ → Nat} (h : Opens P t R bk) (f : β → γ) (hf : ∀ W cs x, R W cs x → S W cs (f x)) (hb : ∀ x, bk' (f x) ≤ bk x) : Opens P t S bk' := by
  refine ⟨fun {H enc W fuel cs x} hx => ?_⟩
  obtain ⟨b, h1, h2⟩ := h.out hx
  exact ⟨f b, hf _ _ _ h1, Nat.le_trans (hb b) h2⟩
def i64b (n : Int) : Prop := -9223372036854775808 ≤ n ∧ n ≤ 9223372036854775807
theorem take1' {cs : List Value} {x : Value} (h : cs.take 1 = [x]) : cs = x :: cs.drop 1 := by
  conv => lhs; rw [← List.take_append_drop 1 cs, h]
  rfl
theorem pair_bool {β : Type} {S : CellR β} {W : World} {cs : List Value} {x : Bool × β} (h : RPair 1 RBool S W cs x) : cs = .bool x.1 :: cs.drop 1 ∧ S W (cs.drop 1) x.2 :=
  ⟨take1' h.1, h.2⟩
theorem pair_str {β : Type} {S : CellR β} {W : World} {cs : List Value} {x : Bytes × β} (h : RPair 1 RStr S W cs x) : cs = Str x.1 :: cs.drop 1 ∧ S W (cs.drop 1) x.2 :=
  ⟨take1' h.1.1, h.2⟩
theorem RSl.own {β : Type} {sz : Nat} {R : CellR β} {w0 w : World} {T : List Nat} {H : Heap} {g : Nat} {t : TypeId} {fz : Nat × Nat} {css : List (List Value)} {tail : List Value} {F : Obj → Heap} (hS : St w0 T H w) [Slot H g (.cells ⟨css.flatten ++ tail⟩ t fz) F] {xs : List β} {cap : Nat}
    (hl : css.length = xs.length) (hc : ∀ c ∈ css, c.length = sz) (hR : ∀ j (h1 : j < css.length) (h2 : j < xs.length), R w css[j] xs[j]) (hcap : xs.length ≤ cap) (_hm : True) : RSl sz R w [.slice (some ⟨g, 0, none⟩) xs.length cap] xs := by
  refine ⟨some ⟨g, 0, none⟩, cap, rfl, hcap, trivial, fun j hj => ?_⟩
  have hj' : j < css.length := by omega
  refine ⟨g, 0, css[j], rfl, hc _ (List.getElem_mem hj'), fun i v hv => ?_, hR j hj' hj⟩
  refine hS.cell ?_
  have hfl : ∀ (l : List (List Value)) (j i : Nat) (v : Value) (hj : j < l.length), (∀ c ∈ l, c.length = sz) → l[j][i]? = some v → (l.flatten ++ tail)[j * sz + i]? = some v := by
    intro l
    induction l with
    | nil => intro j i v hj; simp at hj
    | cons c l ih =>
      intro j i v hj hc hv
      have hcl := hc c (by simp)
      cases j with
      | zero =>
        simp only [List.getElem_cons_zero] at hv
        rw [Nat.zero_mul, Nat.zero_add, List.flatten_cons, List.append_assoc, List.getElem?_append_left (List.getElem?_eq_some_iff.1 hv).1]
        exact hv
      | succ j =>
        simp only [List.getElem_cons_succ] at hv
        rw [List.flatten_cons, List.append_assoc, Nat.succ_mul, List.getElem?_append_right (by omega), show j * sz + sz + i - c.length = j * sz + i by omega]
        exact ih j i v (by simpa using hj) (fun c h => hc c (by simp [h])) hv
  rw [Nat.zero_add]
  exact hfl css j i v hj' hc hv
structure RowM where
  num : Int
  cab : Int
  zone : Int
  exit : Bool
  seats : Bytes
structure EquipM where
  id : Int
  rows : List RowM
structure FlightM where
  id : Int
  equip : Int
  phase : Int
  seq : Int
  l0 : Int
  l1 : Int
  l2 : Int
  l3 : Int
structure PaxM where
  id : Int
  flight : Int
  cab : Int
  fit : Bool
  infant : Bool
  vol : Bool
  stb : Bool
  cls : Int
  status : Int
  tick : Int
  pass : Int
  num : Int
  c : Nat
structure StateM where
  eqs : List EquipM
  fls : List FlightM
  pxs : List PaxM
def rowC (r : RowM) : List Value := [.int .i64 r.num, .int .i64 r.cab, .int .i64 r.zone, .bool r.exit, Str r.seats]
structure RowM.ok (r : RowM) : Prop where
  num : i64b r.num
  cab : i64b r.cab
  zone : i64b r.zone
def RRow : CellR RowM := fun _ cs r => cs = rowC r ∧ r.ok
def flC (f : FlightM) : List Value := [.int .i64 f.id, .int .i64 f.equip, .int .i64 f.phase, .int .i64 f.seq, .int .i64 f.l0, .int .i64 f.l1, .int .i64 f.l2, .int .i64 f.l3]
structure FlightM.ok (f : FlightM) : Prop where
  id : i64b f.id
  equip : i64b f.equip
  phase : i64b f.phase
  seq : i64b f.seq
  l0 : i64b f.l0
  l1 : i64b f.l1
  l2 : i64b f.l2
  l3 : i64b f.l3
def RFlight : CellR FlightM := fun _ cs f => cs = flC f ∧ f.ok
def paxC (p : PaxM) : List Value := [.int .i64 p.id, .int .i64 p.flight, .int .i64 p.cab, .bool p.fit, .bool p.infant, .bool p.vol, .bool p.stb, .int .i64 p.cls, .int .i64 p.status, .int .i64 p.tick, .int .i64 p.pass, .int .i64 p.num, .int .u8 p.c]
structure PaxM.ok (p : PaxM) : Prop where
  id : i64b p.id
  flight : i64b p.flight
  cab : i64b p.cab
  cls : i64b p.cls
  status : i64b p.status
  tick : i64b p.tick
  pass : i64b p.pass
  num : i64b p.num
  c : p.c < 256
def RPax : CellR PaxM := fun _ cs p => cs = paxC p ∧ p.ok
def REquip : CellR EquipM := fun W cs e => ∃ v, cs = [.int .i64 e.id, v] ∧ i64b e.id ∧ RSl 5 RRow W [v] e.rows
end Go.Proofs.YtinkmidjbdnibaaGreatDoor
namespace Go.Eng
open Go
section
variable {P : Program} {T0 : Tbl}
theorem foldl_push_bytes : ∀ (l : List UInt8) (r : ByteArray), (l.map (fun b => (b.toNat : Int))).foldl (fun r n => r.push (UInt8.ofNat n.toNat)) r = ⟨r.data ++ l.toArray⟩
  | [], r => by simp
  | b :: l, r => by
    simp only [List.map_cons, List.foldl_cons, foldl_push_bytes l]
    apply ByteArray.ext
    simp
theorem toStr (hT : TOk P T0) {s d e : TypeId} {i ie id : TI} (hi : tf T0 s = some i) (hk : i.k = .slice e 1) (hie : tf T0 e = some ie) (hke : ie.k = .int .u8) (hid : tf T0 d = some id) (hkd : id.k = .str)
    {C : World → Prop} {T : List Nat} {a : Option Addr} {bs : List UInt8} {n cap : Nat} (hn : bs.length = n) (ha : ∀ w, C w → Arr w T a (bs.map byteV)) {K : Value → Prop} (hK : K (Str bs)) :
    RdG P (convert s d (.slice a n cap)) C K := by
  refine ⟨⟨_, fun w hw => ?_, hK⟩⟩
  have hs := und_of hT hi; rw [hk] at hs
  have he := und_of hT hie; rw [hke] at he
  have hd := und_of hT hid; rw [hkd] at hd
  rw [run_convert_bytes_string w s d e a n cap hs.1 he hd]
  cases a with
  | none =>
    cases bs with
    | nil => rfl
    | cons b bs => obtain ⟨_, _, h, _⟩ := ha w hw 0 (byteV b) rfl; cases h
  | some a =>
    have h1 := run_loadCells_list (P := P) (w := w) a ((bs.map fun b => (b.toNat : Int)).map (Value.int .u8)) (fun j v hj => by
      have hj' : (bs.map byteV)[j]? = some v := by simpa [byteV, List.getElem?_map, Function.comp] using hj
      obtain ⟨bk, off, h1, _, h3⟩ := ha w hw j v hj'
      cases h1
      rw [Addr.add_eq]; exact h3)
    rw [run_bytesToString (P := P) w a n cap (bs.map fun b => (b.toNat : Int)) (by simpa [hn] using h1)]
    congr 2
    rw [foldl_push_bytes]
    simp
end
/-! ### Unsigned integers -/
theorem wrapU (k : IntKind) (hs : k.signed = false) (n : Nat) : k.wrap (n : Int) = ((n % 2 ^ k.bits : Nat) : Int) := by
  unfold IntKind.wrap; simp only [hs]; simp
theorem u8wrap (n : Nat) : IntKind.u8.wrap (n : Int) = ((UInt8.ofNat n).toNat : Int) := by
  rw [wrapU .u8 rfl]; simp [UInt8.toNat_ofNat']; rfl
theorem fdivU (n k : Nat) : (n : Int).fdiv (k : Int) = ((n / k : Nat) : Int) := by
  rw [← Int.ofNat_fdiv]
theorem fdivP (n k : Nat) : (n : Int).fdiv (2 ^ k) = ((n / 2 ^ k : Nat) : Int) := by
  have : ((2 : Int) ^ k) = ((2 ^ k : Nat) : Int) := by simp
  rw [this, fdivU]
theorem orU (k : IntKind) (hs : k.signed = false) (x y : Nat) (hx : x < 2 ^ k.bits) (hy : y < 2 ^ k.bits) : orI k x y = ((x ||| y : Nat) : Int) := by
  unfold orI
  rw [BitVec.toNat_or, BitVec.ofInt_natCast, BitVec.ofInt_natCast, BitVec.toNat_ofNat, BitVec.toNat_ofNat, Nat.mod_eq_of_lt hx, Nat.mod_eq_of_lt hy, wrapU k hs, Nat.mod_eq_of_lt (Nat.or_lt_two_pow hx hy)]
theorem andU (k : IntKind) (hs : k.signed = false) (x y : Nat) (hx : x < 2 ^ k.bits) (hy : y < 2 ^ k.bits) : andI k x y = ((x &&& y : Nat) : Int) := by
  unfold andI
  rw [BitVec.toNat_and, BitVec.ofInt_natCast, BitVec.ofInt_natCast, BitVec.toNat_ofNat, BitVec.toNat_ofNat, Nat.mod_eq_of_lt hx, Nat.mod_eq_of_lt hy, wrapU k hs, Nat.mod_eq_of_lt (Nat.and_lt_two_pow _ hy)]
theorem xorU (k : IntKind) (hs : k.signed = false) (x y : Nat) (hx : x < 2 ^ k.bits) (hy : y < 2 ^ k.bits) : xorI k x y = ((x ^^^ y : Nat) : Int) := by
  unfold xorI
  rw [BitVec.toNat_xor, BitVec.ofInt_natCast, BitVec.ofInt_natCast, BitVec.toNat_ofNat, BitVec.toNat_ofNat, Nat.mod_eq_of_lt hx, Nat.mod_eq_of_lt hy, wrapU k hs, Nat.mod_eq_of_lt (Nat.xor_lt_two_pow hx hy)]
theorem or_add (a b k : Nat) (hb : b < 2 ^ k) : (a * 2 ^ k) ||| b = a * 2 ^ k + b := by
  rw [← Nat.shiftLeft_eq, Nat.shiftLeft_add_eq_or_of_lt hb]
end Go.Eng
namespace Go.Proofs.YtinkmidjbdnibaaGreatDoor
open Go Go.Eng Go.Proofs
theorem St.toBytes {P : Program} {T0 : Tbl} (hT : TOk P T0) {t u e : TypeId} {i iu ie : TI} (hi : tf T0 t = some i) (hk : i.k = .slice e 1) (hiu : tf T0 u = some iu) (hku : iu.k = .str) (hie : tf T0 e = some ie) (hke : ie.k = .int .u8)
    {w0 w : World} {T : List Nat} {H : Heap} (hS : St w0 T H w) {s : Bytes} {K : Value → World → Prop}
    (h : ∀ b c z fz w', s.length ≤ c ∧ s.length ≤ fz.1 → St w0 T ((b, .cells ⟨s.map byteV ++ z⟩ e fz) :: H) w' → K (.slice (some ⟨b, 0, none⟩) s.length c) w') : RunG P (convert u t (Str s)) w K := by
  have h1 := und_of hT hiu; rw [hku] at h1
  have h2 := und_of hT hi; rw [hk] at h2
  have h3 := und_of hT hie; rw [hke] at h3
  have hge := grownCap_ge w s.length 0 e
  have e1 : bytesRow ⟨⟨s⟩⟩ (grownCap w s.length 0 e) = ⟨s.map byteV ++ List.replicate (grownCap w s.length 0 e - s.length) (.int .u8 0)⟩ := by
    apply Array.ext'
    simp [bytesRow]; rfl
  have hrun : (convert u t (Str s)).run P w = .ok (.slice (some ⟨w.heap.size, 0, none⟩) s.length (grownCap w s.length 0 e))
      (w.drew.alloc (.cells (bytesRow ⟨⟨s⟩⟩ (grownCap w s.length 0 e)) e ((bytesRow ⟨⟨s⟩⟩ (grownCap w s.length 0 e)).size, (bytesRow ⟨⟨s⟩⟩ (grownCap w s.length 0 e)).size + 1))) := run_bytes_of_string w u t e ⟨⟨s⟩⟩ h1 h2.1 h3
  rw [e1] at hrun
  exact RunG.of hrun (h _ _ _ _ _ ⟨hge, by simp⟩ (hS.drew.alloc _))
inductive PackW (b : Nat) (bs : Bytes) : Heap → Prop where
  | mk (a : Option Addr) (cap : Nat) (L : Heap) (hv : Vec T_uint8 1 a bs.length cap (bs.map byteV) L) : PackW b bs ((b, .cells ⟨[.int .i64 bs.length, .slice a bs.length cap]⟩ T_pack_Writer (0, 0)) :: L)
theorem PNew_spec {w : World} : Cl Tryz.prog f_pack_New [] w fun v w' => ∃ b L, v = ptr b ∧ PackW b [] L ∧ St w [] L w' := by
  have hS := St.start w
  refine en_pack_New rfl ?_
  refine jq ⟨?_⟩
  refine hS.al ?_
  intro b w1 _ hS
  refine jq ⟨?_⟩
  exact ⟨b, _, rfl, PackW.mk none 0 [] Vec.nil, hS⟩
theorem add_spec {w : World} {b : Nat} {bs : Bytes} {L : Heap} (hW : PackW b bs L) (hh : Holds L w) {a : Option Addr} {cap : Nat} {xs : Bytes} (ha : Arr w (keys L) a (xs.map byteV)) (hlen : bs.length + xs.length ≤ 140737488355328) :
    Cl Tryz.prog f_pack_Writer_add [ptr b, .slice a xs.length cap] w fun _ w' => ∃ L', PackW b (bs ++ xs) L' ∧ St w (keys L) L' w' := by
  have hS := St.enter hh
  generalize hT : keys L = T0 at hS ha ⊢
  obtain ⟨a0, c0, L0, hv⟩ := hW
  refine en_pack_Writer_add rfl ?_
  (repeat (refine jt ⟨?_⟩; refine hS.st rfl rfl ?_; intro _ hS)); refine jt ⟨?_⟩
  refine St.app (sz := 1) (m := xs.length) tblOk rfl rfl rfl rfl hS hv (news := xs.map byteV) (by simp) ((hS.arrOld ha).sub (by simp)) (by simp [byteV, Value.oneCell']) (by show (_ + _) * 1 ≤ _; omega) (by omega) ?_
  intro a' c' L' w' hv' hS
  have hl : (bs ++ xs).length = bs.length + xs.length := List.length_append
  rw [← hl, ← List.map_append] at hv'
  rw [← hl]
  (repeat (refine jt ⟨?_⟩; refine hS.st rfl rfl ?_; intro _ hS)); refine jt ⟨?_⟩
  refine ⟨_, PackW.mk a' c' L' hv', ?_⟩
  rw [show (((bs ++ xs).length : Nat) : Int) = (bs.length : Int) + (xs.length : Int) by rw [hl]; omega]
  exact hS
def u64V (n : Nat) : Value := .int .u64 n
theorem or128 (m : Nat) : orI .u8 (IntKind.u8.wrap (m : Int)) 128 = (((UInt8.ofNat (m % 128 + 128)).toNat : Nat) : Int) := by
  have e1 : IntKind.u8.wrap (m : Int) = ((m % 256 : Nat) : Int) := wrapU .u8 rfl m
  rw [e1]
  have h := Nat.mod_lt m (show 0 < 256 by omega)
  have e2 : m % 128 = m % 256 % 128 := by omega
  rw [e2]
  generalize m % 256 = r at h
  have key : ∀ r : Fin 256, orI .u8 ((r.val : Nat) : Int) 128 = (((UInt8.ofNat (r.val % 128 + 128)).toNat : Nat) : Int) := by decide +kernel
  exact key ⟨r, h⟩
theorem numbs_succ (ns : List Nat) (k : Nat) (hk : k < ns.length) : ((ns.take (k + 1)).map numB).flatten = ((ns.take k).map numB).flatten ++ numB ns[k] := by
  rw [List.take_succ_eq_append_getElem hk, List.map_append, List.flatten_append, List.map_cons, List.map_nil, List.flatten_cons, List.flatten_nil, List.append_nil]
theorem numB_len10 (n : Nat) (h : n < 18446744073709551616) : (numB n).length ≤ 10 := numB_len 9 n (Nat.lt_of_lt_of_le h (by decide))
theorem numbs_len (ns : List Nat) (h : ∀ n ∈ ns, n < 18446744073709551616) : ((ns.map numB).flatten).length ≤ 10 * ns.length := by
  induction ns with
  | nil => simp
  | cons n r ih =>
    have h1 := numB_len10 n (h n (by simp))
    have h2 := ih (fun m hm => h m (List.mem_cons_of_mem _ hm))
    simp only [List.map_cons, List.flatten_cons, List.length_append, List.length_cons]; omega
theorem byteV_ofNat (m : Nat) (h : m < 256) : byteV (UInt8.ofNat m) = .int .u8 (m : Int) := by
  have : (UInt8.ofNat m).toNat = m := by simp; omega
  unfold byteV; rw [this]
set_option maxHeartbeats 1000000 in
theorem Num_spec {w : World} {b : Nat} {bs : Bytes} {L : Heap} (hW : PackW b bs L) (hh : Holds L w) {a : Option Addr} {cap : Nat} {ns : List Nat} (ha : Arr w (keys L) a (ns.map u64V)) (hn : ∀ n ∈ ns, n < 18446744073709551616) (_hl : ns.length ≤ 1099511627776) (hlen : bs.length + 10 * ns.length ≤ 140737488355328) :
    Cl Tryz.prog f_pack_Writer_Num [ptr b, .slice a ns.length cap] w fun _ w' => ∃ L', PackW b (bs ++ (ns.map numB).flatten) L' ∧ St w (keys L) L' w' := by
  have hS := St.enter hh
  generalize hT : keys L = T0 at hS ha ⊢
  refine en_pack_Writer_Num rfl ?_
  refine jq ⟨?_⟩
  refine SemW.loop (fun k : Nat => [(0, ptr b), (6, .slice a ns.length cap), (7, .int .i64 ns.length), (8, .int .i64 k)])
    (fun k w' => k ≤ ns.length ∧ ∃ L', PackW b (bs ++ ((ns.take k).map numB).flatten) L' ∧ St w T0 L' w') (fun k => ns.length - k) 0
    ⟨rfl, rfl, rfl, rfl, trivial⟩ ⟨Nat.zero_le _, L, by simpa using hW, hS⟩ ?_
  rintro k w1 ⟨hk, L1, hW1, hS⟩
  by_cases hkl : k < ns.length
  · obtain ⟨b', off', rfl, hbT, hck⟩ := ha.get (j := k) (by simp; omega)
    simp only [List.getElem_map] at hck
    have hs := numbs_succ ns k hkl
    have hnk := hn ns[k] (List.getElem_mem hkl)
    have hln := numbs_len (ns.take k) (fun n h => hn n (List.mem_of_mem_take h))
    have hlt : (ns.take k).length = k := by simp; omega
    have h10 := numB_len10 _ hnk
    refine jq ⟨?_⟩
    refine hS.ldOld hbT (by simpa using hck) ?_
    refine jq ⟨?_⟩
    refine SemW.loop (fun x : Nat × Bytes => [(0, ptr b), (5, u64V x.1), (6, .slice (some ⟨b', off', none⟩) ns.length cap), (7, .int .i64 ns.length), (8, .int .i64 k)])
      (fun x w' => x.2 ++ numB x.1 = numB ns[k] ∧ ∃ L', PackW b (bs ++ ((ns.take k).map numB).flatten ++ x.2) L' ∧ St w T0 L' w') (fun x => x.1) (ns[k], [])
      ⟨rfl, rfl, rfl, rfl, rfl, trivial⟩ ⟨rfl, L1, by simpa using hW1, hS⟩ ?_
    rintro ⟨m, p⟩ w2 ⟨hp, L2, hW2, hS⟩
    simp only at hp hW2 ⊢
    have hpl := congrArg List.length hp
    rw [List.length_append] at hpl
    have hpos := numB_pos m
    by_cases hm : m < 128
    · rw [numB_lt hm] at hp
      refine jq ⟨?_⟩
      refine hS.al ?_
      intro r w3 _ hS
      refine jq ⟨?_⟩
      refine Cl.mono (add_spec hW2 (hS.part (L := L2)) (xs := [UInt8.ofNat m]) (by rw [List.map_cons, byteV_ofNat m (by omega)]; exact hS.arr (b := r) (nodup_new hS)) (by rw [List.length_append, List.length_append, List.length_singleton]; omega)) ?_
      rintro _ w4 ⟨L3, hW3, hS'⟩
      have hS := (hS.call (L := L2) hS').sub (List.sublist_cons_self _ _)
      refine jq ⟨?_⟩
      refine ⟨k + 1, ⟨rfl, rfl, rfl, rfl, trivial⟩, ⟨by omega, L3, ?_, hS⟩, by omega⟩
      rw [hs, ← hp, ← List.append_assoc, ← List.append_assoc]
      exact hW3
    · rw [numB_ge hm] at hp
      have hpos2 := numB_pos (m / 128)
      rw [numB_ge hm, List.length_cons] at hpl
      refine jq ⟨?_⟩
      refine hS.al ?_
      intro r w3 _ hS
      refine jq ⟨?_⟩
      refine Cl.mono (add_spec hW2 (hS.part (L := L2)) (xs := [UInt8.ofNat (m % 128 + 128)]) (by have := hS.arr (b := r) (nodup_new hS); rw [or128] at this; exact this) (by rw [List.length_append, List.length_append, List.length_singleton]; omega)) ?_
      rintro _ w4 ⟨L3, hW3, hS'⟩
      have hS := (hS.call (L := L2) hS').sub (List.sublist_cons_self _ _)
      refine jq ⟨?_⟩
      refine ⟨(m / 128, p ++ [UInt8.ofNat (m % 128 + 128)]), ⟨rfl, ?_, rfl, rfl, rfl, trivial⟩, ⟨by simpa using hp, L3, by rw [← List.append_assoc]; exact hW3, hS⟩, by simp only; omega⟩
      show Value.int .u64 ((m : Int).fdiv (2 ^ 7)) = u64V (m / 128)
      rw [fdivP]; rfl
  · have hke : k = ns.length := by omega
    subst hke
    rw [List.take_length] at hW1
    refine jq ⟨?_⟩
    exact ⟨L1, hW1, hS⟩
theorem zig_eq (z : Int) (h1 : -9223372036854775808 ≤ z) (h2 : z ≤ 9223372036854775807) :
    xorI .u64 (IntKind.u64.wrap (IntKind.u64.wrap z * 2 ^ 1)) (IntKind.u64.wrap (z.fdiv (2 ^ 63))) = (zig z : Int) ∧ zig z < 18446744073709551616 := by
  unfold zig
  by_cases h0 : 0 ≤ z
  · rw [if_pos h0]
    obtain ⟨n, rfl⟩ := Int.eq_ofNat_of_zero_le h0
    have e0 : ((n : Nat) : Int).toNat = n := Int.toNat_natCast n
    have e1 : IntKind.u64.wrap ((n : Nat) : Int) = (n : Int) := by rw [wrapU .u64 rfl]; congr 1; exact Nat.mod_eq_of_lt (by show n < 18446744073709551616; omega)
    have e2 : IntKind.u64.wrap ((n : Int) * 2 ^ 1) = ((2 * n : Nat) : Int) := by
      rw [show ((n : Nat) : Int) * 2 ^ 1 = ((2 * n : Nat) : Int) by omega, wrapU .u64 rfl]; congr 1; exact Nat.mod_eq_of_lt (by show 2 * n < 18446744073709551616; omega)
    have e3 : ((n : Nat) : Int).fdiv (2 ^ 63) = ((0 : Nat) : Int) := by
      rw [fdivP]; congr 1; exact Nat.div_eq_of_lt (by omega)
    have e4 : IntKind.u64.wrap ((0 : Nat) : Int) = ((0 : Nat) : Int) := by rw [wrapU .u64 rfl]; rfl
    rw [e0, e1, e2, e3, e4, xorU .u64 rfl _ _ (by show 2 * n < 18446744073709551616; omega) (by decide), Nat.xor_zero]
    exact ⟨rfl, by omega⟩
  · rw [if_neg h0]
    obtain ⟨n, hn⟩ : ∃ n : Nat, z = -(n : Int) - 1 := ⟨(-(z + 1)).toNat, by omega⟩
    subst hn
    have hn9 : n < 9223372036854775808 := by omega
    have e0 : (-(-(n : Int) - 1 + 1)).toNat = n := by omega
    have e1 : IntKind.u64.wrap (-(n : Int) - 1) = ((18446744073709551615 - n : Nat) : Int) := by
      unfold IntKind.wrap; simp only [IntKind.signed, IntKind.bits]; simp; omega
    have e2 : IntKind.u64.wrap (((18446744073709551615 - n : Nat) : Int) * 2 ^ 1) = ((18446744073709551614 - 2 * n : Nat) : Int) := by
      rw [show ((18446744073709551615 - n : Nat) : Int) * 2 ^ 1 = ((2 * (18446744073709551615 - n) : Nat) : Int) by omega, wrapU .u64 rfl]; congr 1
      show 2 * (18446744073709551615 - n) % 18446744073709551616 = _; omega
    have e3 : (-(n : Int) - 1).fdiv (2 ^ 63) = -1 := by
      rw [Int.fdiv_eq_ediv_of_nonneg _ (by decide)]; omega
    have e4 : IntKind.u64.wrap (-1) = ((18446744073709551615 : Nat) : Int) := by decide
    rw [e0, e1, e2, e3, e4, xorU .u64 rfl _ _ (by show _ < 18446744073709551616; omega) (by decide)]
    have e5 : (18446744073709551614 - 2 * n) ^^^ 18446744073709551615 = 2 * n + 1 := by
      have h1 : (BitVec.ofNat 64 (18446744073709551614 - 2 * n) ^^^ BitVec.allOnes 64).toNat = (18446744073709551614 - 2 * n) ^^^ 18446744073709551615 := by
        rw [BitVec.toNat_xor, BitVec.toNat_allOnes, BitVec.toNat_ofNat, Nat.mod_eq_of_lt (by omega)]
      rw [← h1, BitVec.xor_allOnes, BitVec.toNat_not, BitVec.toNat_ofNat, Nat.mod_eq_of_lt (by omega)]; omega
    rw [e5]
    exact ⟨rfl, by omega⟩
theorem ints_succ (zs : List Int) (k : Nat) (hk : k < zs.length) : intsB (zs.take (k + 1)) = intsB (zs.take k) ++ intB zs[k] := by
  unfold intsB
  rw [List.take_succ_eq_append_getElem hk, List.map_append, List.flatten_append, List.map_cons, List.map_nil, List.flatten_cons, List.flatten_nil, List.append_nil]
def i64ok (z : Int) : Prop := -9223372036854775808 ≤ z ∧ z ≤ 9223372036854775807
theorem ints_len (zs : List Int) (h : ∀ z ∈ zs, i64ok z) : (intsB zs).length ≤ 10 * zs.length := by
  induction zs with
  | nil => simp [intsB]
  | cons z r ih =>
    have h1 := numB_len10 (zig z) (zig_eq z (h z (by simp)).1 (h z (by simp)).2).2
    have h2 := ih (fun m hm => h m (List.mem_cons_of_mem _ hm))
    simp only [intsB, List.map_cons, List.flatten_cons, List.length_append, List.length_cons, intB] at h2 ⊢; omega
set_option maxHeartbeats 1000000 in
theorem Int_spec {w : World} {b : Nat} {bs : Bytes} {L : Heap} (hW : PackW b bs L) (hh : Holds L w) {a : Option Addr} {cap : Nat} {zs : List Int} (ha : Arr w (keys L) a (zs.map intV)) (hn : ∀ z ∈ zs, i64ok z) (_hl : zs.length ≤ 1099511627776) (hlen : bs.length + 10 * zs.length ≤ 140737488355328) :
    Cl Tryz.prog f_pack_Writer_Int [ptr b, .slice a zs.length cap] w fun _ w' => ∃ L', PackW b (bs ++ intsB zs) L' ∧ St w (keys L) L' w' := by
  have hS := St.enter hh
  generalize hT : keys L = T0 at hS ha ⊢
  refine en_pack_Writer_Int rfl ?_
  refine jq ⟨?_⟩
  refine SemW.loop (fun k : Nat => [(0, ptr b), (6, .slice a zs.length cap), (7, .int .i64 zs.length), (8, .int .i64 k)])
    (fun k w' => k ≤ zs.length ∧ ∃ L', PackW b (bs ++ intsB (zs.take k)) L' ∧ St w T0 L' w') (fun k => zs.length - k) 0
    ⟨rfl, rfl, rfl, rfl, trivial⟩ ⟨Nat.zero_le _, L, by simpa [intsB] using hW, hS⟩ ?_
  rintro k w1 ⟨hk, L1, hW1, hS⟩
  by_cases hkl : k < zs.length
  · obtain ⟨b', off', rfl, hbT, hck⟩ := ha.get (j := k) (by simp; omega)
    simp only [List.getElem_map] at hck
    have hs := ints_succ zs k hkl
    obtain ⟨hr1, hr2⟩ := hn zs[k] (List.getElem_mem hkl)
    obtain ⟨hz1, hz2⟩ := zig_eq zs[k] hr1 hr2
    have hln := ints_len (zs.take k) (fun n h => hn n (List.mem_of_mem_take h))
    have hlt : (zs.take k).length = k := by simp; omega
    refine jq ⟨?_⟩
    refine hS.ldOld hbT (by simpa using hck) ?_
    refine jq ⟨?_⟩
    refine hS.al ?_
    intro r w3 _ hS
    refine jq ⟨?_⟩
    refine Cl.mono (Num_spec hW1 (hS.part (L := L1)) (ns := [zig zs[k]]) (by have := hS.arr (b := r) (nodup_new hS); rw [show min (Int.toNat 1) IntKind.u64.bits = 1 from rfl, show min (Int.toNat 63) IntKind.i64.bits = 63 from rfl, hz1] at this; exact this) (by simpa using hz2) (by simp) (by rw [List.length_append, List.length_singleton]; omega)) ?_
    rintro _ w4 ⟨L3, hW3, hS'⟩
    have hS := (hS.call (L := L1) hS').sub (List.sublist_cons_self _ _)
    refine jq ⟨?_⟩
    refine ⟨k + 1, ⟨rfl, rfl, rfl, rfl, trivial⟩, ⟨by omega, L3, ?_, hS⟩, by omega⟩
    rw [hs, ← List.append_assoc]
    simpa [intB] using hW3
  · have hke : k = zs.length := by omega
    subst hke
    rw [List.take_length] at hW1
    refine jq ⟨?_⟩
    exact ⟨L1, hW1, hS⟩
theorem Bytes_spec {w : World} {b : Nat} {bs : Bytes} {L : Heap} (hW : PackW b bs L) (hh : Holds L w) : Cl Tryz.prog f_pack_Writer_Bytes [ptr b] w fun v w' => v = Str bs ∧ St w (keys L) L w' := by
  have hS := St.enter hh
  generalize hT : keys L = T0 at hS ⊢
  obtain ⟨a0, c0, L0, hv⟩ := hW
  refine en_pack_Writer_Bytes rfl ?_
  (repeat (refine jt ⟨?_⟩; refine hS.st rfl rfl ?_; intro _ hS)); refine jt ⟨?_⟩
  refine toStr (T := []) tblOk rfl rfl rfl rfl rfl rfl (bs := bs) rfl (fun w' hw' => by subst hw'; exact hv.arr hS (by simp)) ?_
  refine jq ⟨?_⟩
  exact ⟨rfl, hS⟩
def textsB (ss : List Bytes) : Bytes := (ss.map textB).flatten
theorem texts_succ (ss : List Bytes) (k : Nat) (hk : k < ss.length) : textsB (ss.take (k + 1)) = textsB (ss.take k) ++ textB ss[k] := by
  unfold textsB
  rw [List.take_succ_eq_append_getElem hk, List.map_append, List.flatten_append, List.map_cons, List.map_nil, List.flatten_cons, List.flatten_nil, List.append_nil]
theorem texts_len (ss : List Bytes) (h : sumLen ss ≤ 18446744073709551615) : (textsB ss).length ≤ 10 * ss.length + sumLen ss := by
  induction ss with
  | nil => simp [textsB]
  | cons z r ih =>
    have e : sumLen (z :: r) = z.length + sumLen r := by simp [sumLen]
    have h1 := numB_len10 z.length (by omega)
    have h2 := ih (by omega)
    rw [e]
    simp only [textsB, List.map_cons, List.flatten_cons, List.length_append, List.length_cons, textB] at h2 ⊢; omega
set_option maxHeartbeats 1000000 in
theorem Text_spec {w : World} {b : Nat} {bs : Bytes} {L : Heap} (hW : PackW b bs L) (hh : Holds L w) {a : Option Addr} {cap : Nat} {ss : List Bytes} (ha : Arr w (keys L) a (ss.map Str)) (hlen : bs.length + 10 * ss.length + sumLen ss ≤ 140737488355328) :
    Cl Tryz.prog f_pack_Writer_Text [ptr b, .slice a ss.length cap] w fun _ w' => ∃ L', PackW b (bs ++ textsB ss) L' ∧ St w (keys L) L' w' := by
  have hS := St.enter hh
  generalize hT : keys L = T0 at hS ha ⊢
  refine en_pack_Writer_Text rfl ?_
  refine jq ⟨?_⟩
  refine SemW.loop (fun k : Nat => [(0, ptr b), (6, .slice a ss.length cap), (7, .int .i64 ss.length), (8, .int .i64 k)])
    (fun k w' => k ≤ ss.length ∧ ∃ L', PackW b (bs ++ textsB (ss.take k)) L' ∧ St w T0 L' w') (fun k => ss.length - k) 0
    ⟨rfl, rfl, rfl, rfl, trivial⟩ ⟨Nat.zero_le _, L, by simpa [textsB] using hW, hS⟩ ?_
  rintro k w1 ⟨hk, L1, hW1, hS⟩
  by_cases hkl : k < ss.length
  · obtain ⟨b', off', rfl, hbT, hck⟩ := ha.get (j := k) (by simp; omega)
    simp only [List.getElem_map] at hck
    have hs := texts_succ ss k hkl
    have h1 := sumLen_take ss k hkl
    have h2 := sumLen_take_le ss (k + 1)
    have hln := texts_len (ss.take k) (by omega)
    have hlt : (ss.take k).length = k := by simp; omega
    have h10 := numB_len10 ss[k].length (by omega)
    refine jq ⟨?_⟩
    refine hS.ldOld hbT (by simpa using hck) ?_
    refine jq ⟨?_⟩
    refine hS.al ?_
    intro r w3 _ hS
    refine jq ⟨?_⟩
    refine Cl.mono (Num_spec hW1 (hS.part (L := L1)) (ns := [ss[k].length]) (hS.arr (b := r) (nodup_new hS)) (by simp; omega) (by simp) (by rw [List.length_append, List.length_singleton]; omega)) ?_
    rintro _ w4 ⟨L3, hW3, hS'⟩
    have hS := (hS.call (L := L1) hS').sub (List.sublist_cons_self _ _)
    have hW3 : PackW b (bs ++ textsB (ss.take k) ++ numB ss[k].length) L3 := by simpa using hW3
    refine jq ⟨?_⟩
    refine St.toBytes tblOk rfl rfl rfl rfl rfl rfl hS ?_
    intro r2 c2 z fz w5 hc hS
    refine jq ⟨?_⟩
    refine Cl.mono (add_spec hW3 (hS.part (L := L3)) (xs := ss[k]) (Arr.take (hS.arr (b := r2) (nodup_new hS))) (by rw [List.length_append, List.length_append]; omega)) ?_
    rintro _ w6 ⟨L4, hW4, hS'⟩
    have hS := (hS.call (L := L3) hS').sub (List.sublist_cons_self _ _)
    refine jq ⟨?_⟩
    refine ⟨k + 1, ⟨rfl, rfl, rfl, rfl, trivial⟩, ⟨by omega, L4, ?_, hS⟩, by omega⟩
    rw [hs, textB]
    simpa using hW4
  · have hke : k = ss.length := by omega
    subst hke
    rw [List.take_length] at hW1
    refine jq ⟨?_⟩
    exact ⟨L1, hW1, hS⟩
def marksN : List Bool → Nat
  | [] => 0
  | b :: l => (if b then 1 else 0) + 2 * marksN l
theorem marksN_lt : ∀ l, marksN l < 2 ^ l.length
  | [] => by simp [marksN]
  | b :: l => by
    have := marksN_lt l
    rw [marksN, List.length_cons, Nat.pow_succ]
    split <;> omega
theorem marksN_snoc : ∀ (l : List Bool) (b : Bool), marksN (l ++ [b]) = marksN l + (if b then 2 ^ l.length else 0)
  | [], b => by simp [marksN]
  | c :: l, b => by
    rw [List.cons_append, marksN, marksN_snoc l b, marksN, List.length_cons, Nat.pow_succ]
    split <;> split <;> omega
def rowB (r : RowM) : Bytes := intsB [r.num, r.cab, r.zone] ++ (numB (marksN [r.exit]) ++ textsB [r.seats])
def rowsBt (rs : List RowM) : Bytes := (rs.map rowB).flatten
def equipB (e : EquipM) : Bytes := numB e.rows.length ++ rowsBt e.rows
theorem rowB_len (r : RowM) (h : r.ok) (hs : r.seats.length ≤ 8388608) : (rowB r).length ≤ 50 + r.seats.length := by
  have h1 := ints_len [r.num, r.cab, r.zone] (by
    intro z hz
    simp only [List.mem_cons, List.mem_nil_iff, or_false] at hz
    rcases hz with rfl | rfl | rfl
    · exact h.num
    · exact h.cab
    · exact h.zone)
  have h2 := texts_len [r.seats] (by simp [sumLen]; omega)
  have h3 := marksN_lt [r.exit]
  have h4 := numB_len10 (marksN [r.exit]) (by have h3' : marksN [r.exit] < 2 := h3; omega)
  have h5 : sumLen [r.seats] = r.seats.length := by simp [sumLen]
  simp only [List.length_cons, List.length_nil] at h1 h2
  unfold rowB
  simp only [List.length_append]; omega
def rowsW (rs : List RowM) : Nat := (rs.map fun r => r.seats.length + 6).sum
theorem rowsW_at (rs : List RowM) (k : Nat) (hk : k < rs.length) : rs[k].seats.length + 6 ≤ rowsW rs := by
  induction rs generalizing k with
  | nil => simp at hk
  | cons r rs ih =>
    unfold rowsW at *
    rw [List.map_cons, List.sum_cons]
    cases k with
    | zero => simp
    | succ k => have := ih k (by simpa using hk); rw [List.getElem_cons_succ]; omega
theorem rowsW_len (rs : List RowM) : 6 * rs.length ≤ rowsW rs := by
  induction rs with
  | nil => simp
  | cons r rs ih => unfold rowsW at *; rw [List.map_cons, List.sum_cons, List.length_cons]; omega
theorem rowsBt_len (rs : List RowM) (h : ∀ r ∈ rs, r.ok) (hw : rowsW rs ≤ 8388608) : (rowsBt rs).length ≤ 50 * rowsW rs := by
  induction rs with
  | nil => simp [rowsBt]
  | cons r rs ih =>
    have h1 : rowsW (r :: rs) = r.seats.length + 6 + rowsW rs := by simp [rowsW]
    have h2 := rowB_len r (h r List.mem_cons_self) (by omega)
    have h3 := ih (fun q hq => h q (List.mem_cons_of_mem _ hq)) (by omega)
    simp only [rowsBt, List.map_cons, List.flatten_cons, List.length_append] at h3 ⊢
    omega
theorem rowsBt_succ (rs : List RowM) (k : Nat) (hk : k < rs.length) : rowsBt (rs.take (k + 1)) = rowsBt (rs.take k) ++ rowB rs[k] := by
  unfold rowsBt
  rw [List.take_succ_eq_append_getElem hk, List.map_append, List.flatten_append]; simp
theorem rowsW_take (rs : List RowM) (k : Nat) : rowsW (rs.take k) ≤ rowsW rs := by
  have h := congrArg (fun l => (l.map fun r : RowM => r.seats.length + 6).sum) (List.take_append_drop k rs)
  simp only [List.map_append, List.sum_append] at h
  unfold rowsW; omega
def flightB (f : FlightM) : Bytes := intsB [f.equip, f.phase, f.seq] ++ intsB [f.l0, f.l1, f.l2, f.l3]
def seatB (num : Int) (c : Nat) : Bytes := if num = 0 ∧ c = 0 then [] else labelB num c
def paxB (p : PaxM) : Bytes := intsB [p.flight, p.cab, p.cls, p.status, p.tick, p.pass] ++ numB (marksN [p.fit, p.infant, p.vol, p.stb]) ++ textB (seatB p.num p.c)
theorem seatB_len (n : Int) (c : Nat) : (seatB n c).length ≤ 3 := by
  unfold seatB; split
  · simp
  · exact (labelB_len n c).2
theorem FlightM.ok.limits {f : FlightM} (hf : f.ok) : ∀ z ∈ [f.l0, f.l1, f.l2, f.l3], i64ok z := by
  intro z hz
  simp only [List.mem_cons, List.mem_nil_iff, or_false] at hz
  rcases hz with rfl | rfl | rfl | rfl
  · exact hf.l0
  · exact hf.l1
  · exact hf.l2
  · exact hf.l3
theorem FlightM.ok.head {f : FlightM} (hf : f.ok) : ∀ z ∈ [f.equip, f.phase, f.seq], i64ok z := by
  intro z hz
  simp only [List.mem_cons, List.mem_nil_iff, or_false] at hz
  rcases hz with rfl | rfl | rfl
  · exact hf.equip
  · exact hf.phase
  · exact hf.seq
theorem PaxM.ok.head {p : PaxM} (h : p.ok) : ∀ z ∈ [p.flight, p.cab, p.cls, p.status, p.tick, p.pass], i64ok z := by
  intro z hz
  simp only [List.mem_cons, List.mem_nil_iff, or_false] at hz
  rcases hz with rfl | rfl | rfl | rfl | rfl | rfl
  · exact h.flight
  · exact h.cab
  · exact h.cls
  · exact h.status
  · exact h.tick
  · exact h.pass
theorem marks4_lt (a b c d : Bool) : marksN [a, b, c, d] < 16 := marksN_lt [a, b, c, d]
end Go.Proofs.YtinkmidjbdnibaaGreatDoor
namespace Go.Proofs.YtinkmidjbdnibaaGreatDoor
open Go Go.Eng
def numS : Nat → Bytes → Option (Nat × Bytes)
  | _, [] => none
  | k, c :: u => if 9 < k ∨ (k = 9 ∧ 1 < c.toNat) ∨ (0 < k ∧ c.toNat = 0) then none
    else if c.toNat < 128 then some (c.toNat, u)
    else match numS (k + 1) u with
      | some (m, r) => some (c.toNat % 128 + 128 * m, r)
      | none => none
theorem u8_ofNat (c : UInt8) : UInt8.ofNat c.toNat = c := by simp
theorem numS_some : ∀ (u : Bytes) (k m : Nat) (r : Bytes), numS k u = some (m, r) → u = numB m ++ r ∧ (0 < k → 0 < m) ∧ k ≤ 9 ∧ m < 2 ^ (64 - 7 * k)
  | [], k, m, r, h => by simp [numS] at h
  | c :: u, k, m, r, h => by
    have hc := c.toNat_lt
    rw [numS] at h
    split at h
    · cases h
    · rename_i h1
      split at h
      · rename_i h2
        simp only [Option.some.injEq, Prod.mk.injEq] at h
        obtain ⟨rfl, rfl⟩ := h
        refine ⟨by rw [numB_lt h2, u8_ofNat]; rfl, by omega, by omega, ?_⟩
        by_cases hk : k = 9
        · subst hk; show _ < 2; omega
        · exact Nat.lt_of_lt_of_le h2 (Nat.pow_le_pow_right (n := 2) (i := 7) (by omega) (by omega))
      · rename_i h2
        split at h
        · rename_i m' r' h3
          simp only [Option.some.injEq, Prod.mk.injEq] at h
          obtain ⟨rfl, rfl⟩ := h
          obtain ⟨h4, h5, h6, h7⟩ := numS_some u (k + 1) m' r' h3
          have h8 := h5 (by omega)
          refine ⟨?_, by omega, by omega, ?_⟩
          · rw [numB_ge (by omega), h4, show (c.toNat % 128 + 128 * m') % 128 + 128 = c.toNat by omega, show (c.toNat % 128 + 128 * m') / 128 = m' by omega, u8_ofNat]
            rfl
          · rw [show 64 - 7 * k = (64 - 7 * (k + 1)) + 7 by omega, Nat.pow_add]
            generalize 2 ^ (64 - 7 * (k + 1)) = P at *
            omega
        · cases h
theorem numS_app : ∀ (j m k : Nat) (r : Bytes), m < 2 ^ (64 - 7 * k) → k + j = 9 → (0 < k → 0 < m) → numS k (numB m ++ r) = some (m, r) := by
  intro j
  induction j with
  | zero =>
    intro m k r hm hk h0
    obtain rfl : k = 9 := by omega
    have hm : m < 2 := hm
    rw [numB_lt (by omega)]
    simp only [List.cons_append, List.nil_append, numS]
    have e : (UInt8.ofNat m).toNat = m := by simp; omega
    rw [e, if_neg (by omega), if_pos (by omega)]
  | succ j ih =>
    intro m k r hm hk h0
    by_cases h : m < 128
    · rw [numB_lt h]
      simp only [List.cons_append, List.nil_append, numS]
      have e : (UInt8.ofNat m).toNat = m := by simp; omega
      rw [e, if_neg (by omega), if_pos (by omega)]
    · rw [numB_ge h]
      simp only [List.cons_append, numS]
      have e : (UInt8.ofNat (m % 128 + 128)).toNat = m % 128 + 128 := by simp; omega
      rw [e, if_neg (by omega), if_neg (by omega), ih (m / 128) (k + 1) r ?_ (by omega) (by omega)]
      · simp only [Option.some.injEq, Prod.mk.injEq, and_true]; omega
      · rw [show 64 - 7 * k = (64 - 7 * (k + 1)) + 7 by omega, Nat.pow_add] at hm
        generalize 2 ^ (64 - 7 * (k + 1)) = P at *
        omega
def numR (t : Bytes) : Option (Nat × Bytes) := numS 0 t
theorem numR_iff (t : Bytes) (m : Nat) (r : Bytes) : numR t = some (m, r) ↔ t = numB m ++ r ∧ m < 18446744073709551616 := by
  constructor
  · intro h
    obtain ⟨h1, -, -, h2⟩ := numS_some t 0 m r h
    exact ⟨h1, h2⟩
  · rintro ⟨rfl, h⟩
    exact numS_app 9 m 0 r h rfl (by omega)
def unzig (u : Nat) : Int := if u % 2 = 0 then (u / 2 : Nat) else -((u / 2 : Nat) : Int) - 1
theorem unzig_zig (z : Int) : unzig (zig z) = z := by
  unfold unzig zig; split <;> split <;> omega
theorem zig_unzig (u : Nat) : zig (unzig u) = u := by
  unfold unzig zig; split <;> split <;> omega
def textR (t : Bytes) : Option (Bytes × Bytes) := match numR t with
  | some (m, r) => if r.length < m then none else some (r.take m, r.drop m)
  | none => none
theorem textR_iff (t s r : Bytes) : textR t = some (s, r) ↔ t = textB s ++ r ∧ s.length < 18446744073709551616 := by
  unfold textR textB
  cases h : numR t with
  | none =>
    simp only [false_iff, reduceCtorEq]
    intro hh
    rw [(numR_iff t s.length (s ++ r)).2 ⟨by rw [hh.1, List.append_assoc], hh.2⟩] at h; cases h
  | some x =>
    obtain ⟨m, r'⟩ := x
    obtain ⟨h1, h2⟩ := (numR_iff t m r').1 h
    simp only
    constructor
    · intro hh
      split at hh
      · cases hh
      · simp only [Option.some.injEq, Prod.mk.injEq] at hh
        obtain ⟨rfl, rfl⟩ := hh
        have e : (r'.take m).length = m := by simp; omega
        rw [e, List.append_assoc, List.take_append_drop]
        exact ⟨h1, h2⟩
    · rintro ⟨h3, h4⟩
      rw [(numR_iff t s.length (s ++ r)).2 ⟨by rw [h3, List.append_assoc], h4⟩] at h
      simp only [Option.some.injEq, Prod.mk.injEq] at h
      obtain ⟨rfl, rfl⟩ := h
      rw [if_neg (by simp), List.take_left, List.drop_left]
end Go.Proofs.YtinkmidjbdnibaaGreatDoor
namespace Go.Proofs.YtinkmidjbdnibaaGreatDoor
open Go Go.Eng Go.Proofs
abbrev rdC (t : Bytes) : Obj := .cells ⟨[Str t]⟩ T_pack_Reader (0, 0)
def numO (t : Bytes) : Nat × Int × Bytes := match numR t with
  | some (m, r) => (m, 0, r)
  | none => (0, 1, t)
theorem low7 (n c k : Nat) (hn : n < 2 ^ (7 * k)) (hc : c < 256) (hk : k ≤ 9) (h9 : k = 9 → c ≤ 1) :
    orI .u64 (n : Int) (IntKind.u64.wrap (andI .u8 (c : Int) 127 * 2 ^ (7 * k))) = ((n + c % 128 * 2 ^ (7 * k) : Nat) : Int) ∧ n + c % 128 * 2 ^ (7 * k) < 18446744073709551616 := by
  have e1 : andI .u8 (c : Int) 127 = ((c % 128 : Nat) : Int) := by
    have h := andU .u8 rfl c 127 hc (by decide)
    rw [show ((127 : Nat) : Int) = 127 from rfl] at h
    rw [h, show (127 : Nat) = 2 ^ 7 - 1 by rfl, Nat.and_two_pow_sub_one_eq_mod]
  have hb : n + c % 128 * 2 ^ (7 * k) < 18446744073709551616 := by
    have hm : c % 128 < 128 := Nat.mod_lt _ (by omega)
    by_cases h : k = 9
    · subst h
      have := h9 rfl
      have h1 : c % 128 ≤ 1 := by omega
      have h2 : c % 128 * 2 ^ (7 * 9) ≤ 1 * 2 ^ (7 * 9) := Nat.mul_le_mul_right _ h1
      omega
    · have h3 : 2 ^ (7 * k) ≤ 2 ^ (7 * 8) := Nat.pow_le_pow_right (by omega) (by omega)
      have h4 : c % 128 * 2 ^ (7 * k) ≤ 127 * 2 ^ (7 * k) := Nat.mul_le_mul_right _ (by omega)
      omega
  refine ⟨?_, hb⟩
  have e2 : ((c % 128 : Nat) : Int) * 2 ^ (7 * k) = ((c % 128 * 2 ^ (7 * k) : Nat) : Int) := by simp
  have e3 : c % 128 * 2 ^ (7 * k) % 2 ^ IntKind.u64.bits = c % 128 * 2 ^ (7 * k) := Nat.mod_eq_of_lt (show c % 128 * 2 ^ (7 * k) < 18446744073709551616 by omega)
  rw [e1, e2, wrapU .u64 rfl, e3, orU .u64 rfl _ _ (show n < 18446744073709551616 by omega) (show _ < 18446744073709551616 by omega), Nat.or_comm, or_add _ _ _ hn, Nat.add_comm]
def numJ (t : Bytes) (k n : Nat) : Prop := k ≤ 10 ∧ k ≤ t.length ∧ n < 2 ^ (7 * k) ∧ numS 0 t = match numS k (t.drop k) with
  | some (m, r) => some (n + m * 2 ^ (7 * k), r)
  | none => none
theorem numJ_fail {t : Bytes} {k n : Nat} (h : numJ t k n) (hf : numS k (t.drop k) = none) : numO t = (0, 1, t) := by
  unfold numO numR
  rw [h.2.2.2, hf]
theorem numS_stop {t : Bytes} {k : Nat} (hk : ¬ (k < 10 ∧ k < t.length)) : numS k (t.drop k) = none := by
  cases h : t.drop k with
  | nil => rfl
  | cons c u =>
    have : k < t.length := by
      have := congrArg List.length h
      simp at this; omega
    unfold numS
    rw [if_pos (by omega)]
theorem numS_at {t : Bytes} {k : Nat} (hk : k < t.length) : numS k (t.drop k) = if 9 < k ∨ (k = 9 ∧ 1 < t[k].toNat) ∨ (0 < k ∧ t[k].toNat = 0) then none
    else if t[k].toNat < 128 then some (t[k].toNat, t.drop (k + 1))
    else match numS (k + 1) (t.drop (k + 1)) with
      | some (m, r) => some (t[k].toNat % 128 + 128 * m, r)
      | none => none := by
  rw [List.drop_eq_getElem_cons hk, numS]
  all_goals rfl
theorem numJ_done {t : Bytes} {k n : Nat} (h : numJ t k n) (hk : k < t.length) (h1 : ¬ (9 < k ∨ (k = 9 ∧ 1 < t[k].toNat) ∨ (0 < k ∧ t[k].toNat = 0))) (h2 : t[k].toNat < 128) :
    numO t = (n + t[k].toNat % 128 * 2 ^ (7 * k), 0, t.drop (k + 1)) := by
  unfold numO numR
  rw [h.2.2.2, numS_at hk, if_neg h1, if_pos h2, Nat.mod_eq_of_lt h2]
theorem numJ_next {t : Bytes} {k n : Nat} (h : numJ t k n) (hk : k < t.length) (h1 : ¬ (9 < k ∨ (k = 9 ∧ 1 < t[k].toNat) ∨ (0 < k ∧ t[k].toNat = 0))) (h2 : ¬ t[k].toNat < 128) :
    numJ t (k + 1) (n + t[k].toNat % 128 * 2 ^ (7 * k)) := by
  obtain ⟨h3, h4, h5, h6⟩ := h
  refine ⟨by omega, by omega, ?_, ?_⟩
  · rw [show 7 * (k + 1) = 7 * k + 7 by omega, Nat.pow_add]
    have h4 : t[k].toNat % 128 * 2 ^ (7 * k) ≤ 127 * 2 ^ (7 * k) := Nat.mul_le_mul_right _ (by omega)
    generalize 2 ^ (7 * k) = P at *
    omega
  · rw [h6, numS_at hk, if_neg h1, if_neg h2]
    cases numS (k + 1) (t.drop (k + 1)) with
    | none => rfl
    | some x =>
      obtain ⟨m, r⟩ := x
      simp only [Option.some.injEq, Prod.mk.injEq, and_true]
      rw [show 7 * (k + 1) = 7 * k + 7 by omega, Nat.pow_add, Nat.add_mul, Nat.add_assoc]
      congr 2
      rw [show 2 ^ (7 * k) * 2 ^ 7 = 128 * 2 ^ (7 * k) by omega, Nat.mul_comm 128 m, Nat.mul_assoc]
theorem low7' (n c k : Nat) (hn : n < 2 ^ (7 * k)) (hc : c < 256) (hk : k ≤ 9) (h9 : k = 9 → c ≤ 1) :
    orI .u64 (n : Int) (IntKind.u64.wrap (IntKind.u64.wrap (andI .u8 (c : Int) 127) * 2 ^ min (7 * (k : Int)).toNat IntKind.u64.bits)) = ((n + c % 128 * 2 ^ (7 * k) : Nat) : Int) := by
  have h := (low7 n c k hn hc hk h9).1
  have e1 : andI .u8 (c : Int) 127 = ((c % 128 : Nat) : Int) := by
    have h := andU .u8 rfl c 127 hc (by decide)
    rw [show ((127 : Nat) : Int) = 127 from rfl] at h
    rw [h, show (127 : Nat) = 2 ^ 7 - 1 by rfl, Nat.and_two_pow_sub_one_eq_mod]
  have e2 : IntKind.u64.wrap (((c % 128 : Nat) : Nat) : Int) = ((c % 128 : Nat) : Int) := by
    rw [wrapU .u64 rfl]; congr 1; exact Nat.mod_eq_of_lt (by show _ < 18446744073709551616; omega)
  have e3 : min (7 * (k : Int)).toNat IntKind.u64.bits = 7 * k := by show min _ 64 = _; omega
  rw [e1] at h ⊢
  rw [e2, e3]; exact h
set_option maxHeartbeats 4000000 in
theorem RNum_spec {w : World} {b : Nat} {t : Bytes} (hh : Holds [(b, rdC t)] w) (ht : t.length ≤ 70368744177664) :
    Cl Tryz.prog f_pack_Reader_Num [ptr b] w fun v w' => v = .tuple ⟨[.int .u64 (numO t).1, .int .i64 (numO t).2.1]⟩ ∧ St w [b] [(b, rdC (numO t).2.2)] w' := by
  have hS : St w [b] [(b, rdC t)] w := St.enter hh
  refine en_pack_Reader_Num rfl ?_
  refine jq ⟨?_⟩
  refine SemW.loop (fun x : Nat × Nat => [(0, ptr b), (4, .int .u64 x.2), (5, .int .i64 x.1)])
    (fun x w' => numJ t x.1 x.2 ∧ St w [b] [(b, rdC t)] w') (fun x => 10 - x.1) (0, 0)
    ⟨rfl, rfl, rfl, trivial⟩ ⟨⟨by omega, by omega, by simp, by simp only [List.drop_zero]; cases numS 0 t <;> simp⟩, hS⟩ ?_
  rintro ⟨k, n⟩ w1 ⟨hJ, hS⟩
  simp only at hJ hS ⊢
  have hkk := hJ.1
  have hkl := hJ.2.1
  by_cases hk : k < 10 ∧ k < t.length
  · obtain ⟨hk10, hkt⟩ := hk
    have hmin : ((k : Int) < min 10 (t.length : Int)) := by omega
    (repeat (refine jt ⟨?_⟩; refine hS.st rfl rfl ?_; intro _ hS)); refine jt ⟨?_⟩
    obtain ⟨c, hc⟩ : ∃ c, c = t.getD ((k : Int)).toNat 0 := ⟨_, rfl⟩
    have hct : c = t[k] := by rw [hc]; simp [hkt]
    rw [← hc]
    have hclt := c.toNat_lt
    by_cases h9 : k = 9
    · by_cases h1 : 1 < c.toNat
      · (repeat (refine jt ⟨?_⟩; refine hS.st rfl rfl ?_; intro _ hS)); refine jt ⟨?_⟩
        rw [numJ_fail hJ (by rw [numS_at hkt, if_pos (by rw [← hct]; omega)])]
        exact ⟨rfl, hS⟩
      · by_cases hz : c.toNat = 0
        · (repeat (refine jt ⟨?_⟩; refine hS.st rfl rfl ?_; intro _ hS)); refine jt ⟨?_⟩
          rw [numJ_fail hJ (by rw [numS_at hkt, if_pos (by rw [← hct]; omega)])]
          exact ⟨rfl, hS⟩
        · have hl7 := low7' n c.toNat k hJ.2.2.1 c.toNat_lt (by omega) (by omega)
          have hnb : ¬ (9 < k ∨ (k = 9 ∧ 1 < t[k].toNat) ∨ (0 < k ∧ t[k].toNat = 0)) := by rw [← hct]; omega
          have ek : ((k : Int) + 1).toNat = k + 1 := by omega
          by_cases h128 : c.toNat < 128
          · have hdn := numJ_done hJ hkt hnb (by rw [← hct]; exact h128)
            rw [← hct] at hdn
            (repeat (refine jt ⟨?_⟩; refine hS.st rfl rfl ?_; intro _ hS)); refine jt ⟨?_⟩
            rw [hdn]
            rw [ek] at hS
            exact ⟨congrArg (fun z => Value.tuple ⟨[.int .u64 z, .int .i64 0]⟩) hl7, hS⟩
          · have hnx := numJ_next hJ hkt hnb (by rw [← hct]; exact h128)
            rw [← hct] at hnx
            first
            | (exfalso; omega)
            | ((repeat (refine jt ⟨?_⟩; refine hS.st rfl rfl ?_; intro _ hS)); refine jt ⟨?_⟩
               exact ⟨(k + 1, n + c.toNat % 128 * 2 ^ (7 * k)), ⟨rfl, congrArg (Value.int .u64) hl7, rfl, trivial⟩, ⟨hnx, hS⟩, by simp only; omega⟩)
    · by_cases h0 : 0 < k
      · by_cases hz : c.toNat = 0
        · (repeat (refine jt ⟨?_⟩; refine hS.st rfl rfl ?_; intro _ hS)); refine jt ⟨?_⟩
          rw [numJ_fail hJ (by rw [numS_at hkt, if_pos (by rw [← hct]; omega)])]
          exact ⟨rfl, hS⟩
        · have hl7 := low7' n c.toNat k hJ.2.2.1 c.toNat_lt (by omega) (by omega)
          have hnb : ¬ (9 < k ∨ (k = 9 ∧ 1 < t[k].toNat) ∨ (0 < k ∧ t[k].toNat = 0)) := by rw [← hct]; omega
          have ek : ((k : Int) + 1).toNat = k + 1 := by omega
          by_cases h128 : c.toNat < 128
          · have hdn := numJ_done hJ hkt hnb (by rw [← hct]; exact h128)
            rw [← hct] at hdn
            (repeat (refine jt ⟨?_⟩; refine hS.st rfl rfl ?_; intro _ hS)); refine jt ⟨?_⟩
            rw [hdn]
            rw [ek] at hS
            exact ⟨congrArg (fun z => Value.tuple ⟨[.int .u64 z, .int .i64 0]⟩) hl7, hS⟩
          · have hnx := numJ_next hJ hkt hnb (by rw [← hct]; exact h128)
            rw [← hct] at hnx
            first
            | (exfalso; omega)
            | ((repeat (refine jt ⟨?_⟩; refine hS.st rfl rfl ?_; intro _ hS)); refine jt ⟨?_⟩
               exact ⟨(k + 1, n + c.toNat % 128 * 2 ^ (7 * k)), ⟨rfl, congrArg (Value.int .u64) hl7, rfl, trivial⟩, ⟨hnx, hS⟩, by simp only; omega⟩)
      · have hl7 := low7' n c.toNat k hJ.2.2.1 c.toNat_lt (by omega) (by omega)
        have hnb : ¬ (9 < k ∨ (k = 9 ∧ 1 < t[k].toNat) ∨ (0 < k ∧ t[k].toNat = 0)) := by rw [← hct]; omega
        have ek : ((k : Int) + 1).toNat = k + 1 := by omega
        by_cases h128 : c.toNat < 128
        · have hdn := numJ_done hJ hkt hnb (by rw [← hct]; exact h128)
          rw [← hct] at hdn
          (repeat (refine jt ⟨?_⟩; refine hS.st rfl rfl ?_; intro _ hS)); refine jt ⟨?_⟩
          rw [hdn]
          rw [ek] at hS
          exact ⟨congrArg (fun z => Value.tuple ⟨[.int .u64 z, .int .i64 0]⟩) hl7, hS⟩
        · have hnx := numJ_next hJ hkt hnb (by rw [← hct]; exact h128)
          rw [← hct] at hnx
          first
          | (exfalso; omega)
          | ((repeat (refine jt ⟨?_⟩; refine hS.st rfl rfl ?_; intro _ hS)); refine jt ⟨?_⟩
             exact ⟨(k + 1, n + c.toNat % 128 * 2 ^ (7 * k)), ⟨rfl, congrArg (Value.int .u64) hl7, rfl, trivial⟩, ⟨hnx, hS⟩, by simp only; omega⟩)
  · have hmin : ¬ ((k : Int) < min 10 (t.length : Int)) := by omega
    (repeat (refine jt ⟨?_⟩; refine hS.st rfl rfl ?_; intro _ hS)); refine jt ⟨?_⟩
    rw [numJ_fail hJ (numS_stop hk)]
    exact ⟨rfl, hS⟩
def intO (t : Bytes) : Int × Int × Bytes := (unzig (numO t).1, (numO t).2)
theorem numO_lt (t : Bytes) : (numO t).1 < 18446744073709551616 := by
  unfold numO
  cases h : numR t with
  | none => show 0 < 18446744073709551616; omega
  | some x => obtain ⟨m, r⟩ := x; exact ((numR_iff t m r).1 h).2
theorem numO_len (t : Bytes) : (numO t).2.2.length ≤ t.length := by
  unfold numO
  cases h : numR t with
  | none => exact Nat.le_refl _
  | some x =>
    obtain ⟨m, r⟩ := x
    have := congrArg List.length ((numR_iff t m r).1 h).1
    simp only [List.length_append] at this
    show r.length ≤ t.length
    omega
theorem unz_eq (u : Nat) (h : u < 18446744073709551616) : xorI .i64 ((u / 2 : Nat) : Int) (0 - ((u % 2 : Nat) : Int)) = unzig u := by
  show IntKind.i64.wrap (((BitVec.ofInt 64 ((u / 2 : Nat) : Int) ^^^ BitVec.ofInt 64 (0 - ((u % 2 : Nat) : Int))).toNat : Nat) : Int) = _
  have e1 : BitVec.ofInt 64 ((u / 2 : Nat) : Int) = BitVec.ofNat 64 (u / 2) := BitVec.ofInt_natCast ..
  unfold unzig
  by_cases h2 : u % 2 = 0
  · rw [if_pos h2, h2]
    have e2 : BitVec.ofInt 64 (0 - ((0 : Nat) : Int)) = 0#64 := by decide
    rw [e1, e2, BitVec.xor_zero, BitVec.toNat_ofNat, Nat.mod_eq_of_lt (by omega)]
    unfold IntKind.wrap; simp only [IntKind.signed, IntKind.bits]; simp; omega
  · rw [if_neg h2, show u % 2 = 1 by omega]
    have e2 : BitVec.ofInt 64 (0 - ((1 : Nat) : Int)) = BitVec.allOnes 64 := by decide
    rw [e1, e2, BitVec.xor_allOnes, BitVec.toNat_not, BitVec.toNat_ofNat, Nat.mod_eq_of_lt (by omega)]
    unfold IntKind.wrap; simp only [IntKind.signed, IntKind.bits]; simp; omega
set_option maxHeartbeats 1000000 in
theorem RInt_spec {w : World} {b : Nat} {t : Bytes} (hh : Holds [(b, rdC t)] w) (ht : t.length ≤ 70368744177664) :
    Cl Tryz.prog f_pack_Reader_Int [ptr b] w fun v w' => v = .tuple ⟨[.int .i64 (intO t).1, .int .i64 (intO t).2.1]⟩ ∧ St w [b] [(b, rdC (intO t).2.2)] w' := by
  refine en_pack_Reader_Int rfl ?_
  refine jq ⟨?_⟩
  refine Cl.mono (RNum_spec hh ht) ?_
  rintro _ w1 ⟨rfl, hS⟩
  unfold intO
  have hlt := numO_lt t
  generalize numO t = x at hS hlt ⊢
  obtain ⟨u, e, r⟩ := x
  simp only at hS hlt ⊢
  have e1 : (u : Int).fdiv (2 ^ min (Int.toNat 1) IntKind.u64.bits) = ((u / 2 : Nat) : Int) := by
    show (u : Int).fdiv (2 ^ 1) = _
    rw [fdivP]
  have e2 : andI .u64 (u : Int) 1 = ((u % 2 : Nat) : Int) := by
    have h := andU .u64 rfl u 1 hlt (by decide)
    rw [show ((1 : Nat) : Int) = 1 from rfl] at h
    rw [h, show (1 : Nat) = 2 ^ 1 - 1 by rfl, Nat.and_two_pow_sub_one_eq_mod]
  have hz := unz_eq u hlt
  refine jq ⟨?_⟩
  rw [e1]
  refine jq ⟨?_⟩
  rw [e2]
  refine jq ⟨?_⟩
  exact ⟨congrArg (fun z => Value.tuple ⟨[.int .i64 z, .int .i64 e]⟩) hz, hS⟩
theorem RDone_spec {w : World} {b : Nat} {t : Bytes} (hh : Holds [(b, rdC t)] w) :
    Cl Tryz.prog f_pack_Reader_Done [ptr b] w fun v w' => v = .bool (decide (t = [])) ∧ St w [] [] w' := by
  have hS : St w [b] [(b, rdC t)] w := St.enter hh
  refine en_pack_Reader_Done rfl ?_
  (repeat (refine jt ⟨?_⟩; refine hS.st rfl rfl ?_; intro _ hS)); refine jt ⟨?_⟩
  exact ⟨rfl, St.start w⟩
theorem PRead_spec {w : World} {t : Bytes} : Cl Tryz.prog f_pack_Read [Str t] w fun v w' => ∃ b, v = ptr b ∧ St w [] [(b, rdC t)] w' := by
  have hS := St.start w
  refine en_pack_Read rfl ?_
  refine jq ⟨?_⟩
  refine hS.al ?_
  intro b w1 _ hS
  refine jq ⟨?_⟩
  exact ⟨b, rfl, hS⟩
end Go.Proofs.YtinkmidjbdnibaaGreatDoor
namespace Go.Proofs.YtinkmidjbdnibaaGreatDoor
open Go Go.Eng
theorem zig_ok {z : Int} (h : i64ok z) : zig z < 18446744073709551616 := by
  unfold i64ok at h; unfold zig; split <;> omega
theorem ok_zig {z : Int} (h : zig z < 18446744073709551616) : i64ok z := by
  unfold zig at h; unfold i64ok; split at h <;> omega
theorem numO_app (m : Nat) (r : Bytes) (h : m < 18446744073709551616) : numO (numB m ++ r) = (m, 0, r) := by
  unfold numO; rw [(numR_iff _ m r).2 ⟨rfl, h⟩]
theorem intO_app (z : Int) (r : Bytes) (h : i64ok z) : intO (intB z ++ r) = (z, 0, r) := by
  unfold intO intB
  rw [numO_app _ _ (zig_ok h), unzig_zig]
theorem numO_ok {t : Bytes} (h : (numO t).2.1 = 0) : t = numB (numO t).1 ++ (numO t).2.2 := by
  unfold numO at h ⊢
  cases e : numR t with
  | none => rw [e] at h; cases h
  | some x => obtain ⟨m, r⟩ := x; exact ((numR_iff t m r).1 e).1
theorem intO_ok {t : Bytes} (h : (intO t).2.1 = 0) : t = intB (intO t).1 ++ (intO t).2.2 ∧ i64ok (intO t).1 := by
  have h1 := numO_ok h
  have h2 := numO_lt t
  unfold intO intB
  simp only
  rw [zig_unzig]
  exact ⟨h1, ok_zig (by rw [zig_unzig]; exact h2)⟩
theorem intO_len (t : Bytes) : (intO t).2.2.length ≤ t.length := numO_len t
theorem intO_len' {t : Bytes} (h : (intO t).2.1 = 0) : (intO t).2.2.length + 1 ≤ t.length := by
  have h1 := congrArg List.length (intO_ok h).1
  have h2 := numB_pos (zig (intO t).1)
  rw [List.length_append] at h1
  unfold intB at h1; omega
structure RB where
  t : Bytes
  bad : Bool
def rbInt (s : RB) : Int × RB := ((intO s.t).1, ⟨(intO s.t).2.2, s.bad || decide ((intO s.t).2.1 ≠ 0)⟩)
def rbNum (s : RB) : Nat × RB := ((numO s.t).1, ⟨(numO s.t).2.2, s.bad || decide ((numO s.t).2.1 ≠ 0)⟩)
theorem rbInt_good {s : RB} (h : (rbInt s).2.bad = false) : s.bad = false ∧ s.t = intB (rbInt s).1 ++ (rbInt s).2.t ∧ i64ok (rbInt s).1 := by
  unfold rbInt at h ⊢
  simp only [Bool.or_eq_false_iff, decide_eq_false_iff_not, Decidable.not_not] at h
  exact ⟨h.1, (intO_ok h.2).1, (intO_ok h.2).2⟩
theorem rbNum_good {s : RB} (h : (rbNum s).2.bad = false) : s.bad = false ∧ s.t = numB (rbNum s).1 ++ (rbNum s).2.t := by
  unfold rbNum at h ⊢
  simp only [Bool.or_eq_false_iff, decide_eq_false_iff_not, Decidable.not_not] at h
  exact ⟨h.1, numO_ok h.2⟩
theorem rbInt_app (z : Int) (r : Bytes) (h : i64ok z) : rbInt ⟨intB z ++ r, false⟩ = (z, ⟨r, false⟩) := by
  unfold rbInt; simp only [intO_app z r h]; rfl
theorem rbNum_app (m : Nat) (r : Bytes) (h : m < 18446744073709551616) : rbNum ⟨numB m ++ r, false⟩ = (m, ⟨r, false⟩) := by
  unfold rbNum; simp only [numO_app m r h]; rfl
end Go.Proofs.YtinkmidjbdnibaaGreatDoor
namespace Go.Proofs.YtinkmidjbdnibaaGreatDoor
open Go Go.Eng Go.Proofs
def textO (t : Bytes) : Bytes × Int × Bytes := match textR t with
  | some (s, r) => (s, 0, r)
  | none => ([], 1, t)
theorem textO_len (t : Bytes) : (textO t).1.length + (textO t).2.2.length ≤ t.length := by
  unfold textO
  cases h : textR t with
  | none => show 0 + t.length ≤ t.length; omega
  | some x =>
    obtain ⟨s, r⟩ := x
    have := congrArg List.length ((textR_iff t s r).1 h).1
    simp only [textB, List.length_append] at this
    show s.length + r.length ≤ t.length
    omega
set_option maxHeartbeats 1000000 in
theorem RText_spec {w : World} {b : Nat} {t : Bytes} (hh : Holds [(b, rdC t)] w) (ht : t.length ≤ 70368744177664) :
    Cl Tryz.prog f_pack_Reader_Text [ptr b] w fun v w' => v = .tuple ⟨[Str (textO t).1, .int .i64 (textO t).2.1]⟩ ∧ St w [b] [(b, rdC (textO t).2.2)] w' := by
  have hS : St w [b] [(b, rdC t)] w := St.enter hh
  refine en_pack_Reader_Text rfl ?_
  (repeat (refine jt ⟨?_⟩; refine hS.st rfl rfl ?_; intro _ hS)); refine jt ⟨?_⟩
  refine Cl.mono (RNum_spec hh ht) ?_
  rintro _ w1 ⟨rfl, hS1⟩
  have hlt := numO_lt t
  have hln := numO_len t
  unfold textO textR
  cases h : numR t with
  | none =>
    have hn : numO t = (0, 1, t) := by unfold numO; rw [h]
    rw [hn] at hS1 ⊢
    simp only at hS1 ⊢
    have hS := hS1
    (repeat (refine jt ⟨?_⟩; refine hS.st rfl rfl ?_; intro _ hS)); refine jt ⟨?_⟩
    exact ⟨rfl, hS⟩
  | some x =>
    obtain ⟨m, r⟩ := x
    have hn : numO t = (m, 0, r) := by unfold numO; rw [h]
    rw [hn] at hS1 hlt hln ⊢
    simp only at hS1 hlt hln ⊢
    have hS := hS1
    by_cases hm : r.length < m
    · rw [if_pos hm]
      (repeat (refine jt ⟨?_⟩; refine hS.st rfl rfl ?_; intro _ hS)); refine jt ⟨?_⟩
      exact ⟨rfl, hS⟩
    · rw [if_neg hm]
      (repeat (refine jt ⟨?_⟩; refine hS.st rfl rfl ?_; intro _ hS)); refine jt ⟨?_⟩
      exact ⟨rfl, hS⟩
instance : DecidableEq RowM := fun a b =>
  if h : a.num = b.num ∧ a.cab = b.cab ∧ a.zone = b.zone ∧ a.exit = b.exit ∧ a.seats = b.seats then
    isTrue (by obtain ⟨h1, h2, h3, h4, h5⟩ := h; cases a; cases b; simp only at h1 h2 h3 h4 h5; rw [h1, h2, h3, h4, h5])
  else isFalse (fun e => h (by rw [e]; exact ⟨rfl, rfl, rfl, rfl, rfl⟩))
def tk {α β : Type} (x : α × RB) (f : α → RB → β) : β := f x.1 x.2
def wInts : Nat → RB → List Int × RB
  | 0, s => ([], s)
  | k + 1, s => ((rbInt s).1 :: (wInts k (rbInt s).2).1, (wInts k (rbInt s).2).2)
def bitsN : Nat → Nat → List Bool
  | 0, _ => []
  | k + 1, n => decide (n % 2 = 1) :: bitsN k (n / 2)
def wText (s : RB) : Bytes × RB := ((textO s.t).1, ⟨(textO s.t).2.2, s.bad || decide ((textO s.t).2.1 ≠ 0)⟩)
structure Codec {α : Type} (D : RB → α × RB) (E : α → Bytes) (ok : α → Prop) : Prop where
  good : ∀ s, (D s).2.bad = false → s.bad = false ∧ s.t = E (D s).1 ++ (D s).2.t ∧ ok (D s).1
  app : ∀ a r, ok a → D ⟨E a ++ r, false⟩ = (a, ⟨r, false⟩)
theorem wInts_len : ∀ k s, (wInts k s).1.length = k
  | 0, _ => rfl
  | k + 1, s => by unfold wInts; simp [wInts_len k]
theorem rbInt_ok' (s : RB) : i64ok (rbInt s).1 := by
  have h2 := numO_lt s.t
  unfold rbInt intO
  exact ok_zig (by simp only; rw [zig_unzig]; exact h2)
theorem wInts_ok : ∀ k s, ∀ z ∈ (wInts k s).1, i64ok z
  | 0, _, z, hz => by cases hz
  | k + 1, s, z, hz => by
    rcases List.mem_cons.1 hz with rfl | hz
    · exact rbInt_ok' s
    · exact wInts_ok k _ z hz
theorem wInts_codec : ∀ k, Codec (wInts k) intsB (fun l => l.length = k ∧ ∀ z ∈ l, i64ok z)
  | 0 => ⟨fun s h => ⟨h, rfl, rfl, by nofun⟩, fun a r ha => by obtain rfl := List.eq_nil_of_length_eq_zero ha.1; rfl⟩
  | k + 1 => by
    have ih := wInts_codec k
    refine ⟨fun s h => ?_, fun a r ha => ?_⟩
    · obtain ⟨h1, e1, -⟩ := ih.good _ (show (wInts k (rbInt s).2).2.bad = false from h)
      obtain ⟨h2, e2, -⟩ := rbInt_good h1
      refine ⟨h2, ?_, wInts_len (k + 1) s, wInts_ok (k + 1) s⟩
      unfold wInts
      simp only [intsB, List.map_cons, List.flatten_cons, List.append_assoc]
      rw [e2]
      congr 1
    · match a, ha with
      | z :: a, ha =>
        have e : intsB (z :: a) ++ r = intB z ++ (intsB a ++ r) := by simp [intsB]
        rw [e]
        unfold wInts
        rw [rbInt_app _ _ (ha.2 z List.mem_cons_self)]
        simp only
        rw [ih.app a r ⟨by simpa using ha.1, fun y hy => ha.2 y (List.mem_cons_of_mem _ hy)⟩]
theorem bitsN_len : ∀ k n, (bitsN k n).length = k
  | 0, _ => rfl
  | k + 1, n => by unfold bitsN; simp [bitsN_len k]
theorem marks_bits : ∀ k n, n < 2 ^ k → marksN (bitsN k n) = n
  | 0, n, h => by simp at h; simp [bitsN, marksN, h]
  | k + 1, n, h => by
    rw [Nat.pow_succ] at h
    unfold bitsN marksN
    rw [marks_bits k (n / 2) (by omega)]
    by_cases h2 : n % 2 = 1
    · rw [decide_eq_true h2, if_pos rfl]; omega
    · rw [decide_eq_false h2, if_neg (by nofun)]; omega
theorem bits_marksN : ∀ l : List Bool, bitsN l.length (marksN l) = l
  | [] => rfl
  | b :: l => by
    rw [List.length_cons]
    unfold bitsN
    have e1 : marksN (b :: l) % 2 = if b then 1 else 0 := by rw [marksN]; split <;> omega
    have e2 : marksN (b :: l) / 2 = marksN l := by rw [marksN]; split <;> omega
    rw [e1, e2, bits_marksN l]
    cases b <;> rfl
theorem textO_ok {t : Bytes} (h : (textO t).2.1 = 0) : t = textB (textO t).1 ++ (textO t).2.2 ∧ (textO t).1.length < 18446744073709551616 := by
  unfold textO at h ⊢
  cases e : textR t with
  | none => rw [e] at h; cases h
  | some x => obtain ⟨m, r⟩ := x; exact (textR_iff t m r).1 e
theorem textO_app (s r : Bytes) (h : s.length < 18446744073709551616) : textO (textB s ++ r) = (s, 0, r) := by
  unfold textO; rw [(textR_iff _ s r).2 ⟨rfl, h⟩]
theorem wText_codec : Codec wText textB (fun x => x.length < 18446744073709551616) where
  good s h := by
    unfold wText at h ⊢
    simp only [Bool.or_eq_false_iff, decide_eq_false_iff_not, Decidable.not_not] at h
    exact ⟨h.1, textO_ok h.2⟩
  app a r ha := by
    unfold wText; simp only [textO_app a r ha]; rfl
theorem lst1 {α : Type} {l : List α} (d : α) (h : l.length = 1) : l = [l.getD 0 d] := by
  match l, h with
  | [a], _ => rfl
theorem lst2 {α : Type} {l : List α} (d : α) (h : l.length = 2) : l = [l.getD 0 d, l.getD 1 d] := by
  match l, h with
  | [a, b], _ => rfl
theorem lst3 {α : Type} {l : List α} (d : α) (h : l.length = 3) : l = [l.getD 0 d, l.getD 1 d, l.getD 2 d] := by
  match l, h with
  | [a, b, c], _ => rfl
theorem lst4 {α : Type} {l : List α} (d : α) (h : l.length = 4) : l = [l.getD 0 d, l.getD 1 d, l.getD 2 d, l.getD 3 d] := by
  match l, h with
  | [a, b, c, e], _ => rfl
theorem lst6 {α : Type} {l : List α} (d : α) (h : l.length = 6) : l = [l.getD 0 d, l.getD 1 d, l.getD 2 d, l.getD 3 d, l.getD 4 d, l.getD 5 d] := by
  match l, h with
  | [a, b, c, e, f, g], _ => rfl
theorem getD_ok {l : List Int} (h : ∀ z ∈ l, i64ok z) (i : Nat) : i64ok (l.getD i 0) := by
  rw [List.getD_eq_getElem?_getD]
  cases e : l[i]? with
  | none => exact ⟨by decide, by decide⟩
  | some z => exact h z (List.mem_of_getElem? e)
structure CmdM where
  kind : Int
  req : Int
  id : Int
  fl : Int
  eq : Int
  cls : Int
  wcab : Int
  fit : Bool
  inf : Bool
  vol : Bool
  stb : Bool
  num : Int
  lt : Nat
  rows : List RowM
  l0 : Int
  l1 : Int
  l2 : Int
  l3 : Int
  text : Bytes
theorem CmdM.ext' {a b : CmdM} (h0 : a.kind = b.kind) (h1 : a.req = b.req) (h2 : a.id = b.id) (h3 : a.fl = b.fl) (h4 : a.eq = b.eq) (h5 : a.cls = b.cls) (h6 : a.wcab = b.wcab) (h7 : a.fit = b.fit) (h8 : a.inf = b.inf) (h9 : a.vol = b.vol) (h10 : a.stb = b.stb) (h11 : a.num = b.num) (h12 : a.lt = b.lt) (h13 : a.rows = b.rows) (h14 : a.l0 = b.l0) (h15 : a.l1 = b.l1) (h16 : a.l2 = b.l2) (h17 : a.l3 = b.l3) (h18 : a.text = b.text) : a = b := by
  cases a; cases b; simp only at h0 h1 h2 h3 h4 h5 h6 h7 h8 h9 h10 h11 h12 h13 h14 h15 h16 h17 h18; rw [h0, h1, h2, h3, h4, h5, h6, h7, h8, h9, h10, h11, h12, h13, h14, h15, h16, h17, h18]
instance : DecidableEq CmdM := fun a b =>
  if h : a.kind = b.kind ∧ a.req = b.req ∧ a.id = b.id ∧ a.fl = b.fl ∧ a.eq = b.eq ∧ a.cls = b.cls ∧ a.wcab = b.wcab ∧ a.fit = b.fit ∧ a.inf = b.inf ∧ a.vol = b.vol ∧ a.stb = b.stb ∧ a.num = b.num ∧ a.lt = b.lt ∧ a.rows = b.rows ∧ a.l0 = b.l0 ∧ a.l1 = b.l1 ∧ a.l2 = b.l2 ∧ a.l3 = b.l3 ∧ a.text = b.text then
    isTrue (by obtain ⟨h0, h1, h2, h3, h4, h5, h6, h7, h8, h9, h10, h11, h12, h13, h14, h15, h16, h17, h18⟩ := h; exact CmdM.ext' h0 h1 h2 h3 h4 h5 h6 h7 h8 h9 h10 h11 h12 h13 h14 h15 h16 h17 h18)
  else isFalse (fun e => h (by rw [e]; exact ⟨rfl, rfl, rfl, rfl, rfl, rfl, rfl, rfl, rfl, rfl, rfl, rfl, rfl, rfl, rfl, rfl, rfl, rfl, rfl⟩))
structure CmdM.ok (c : CmdM) : Prop where
  kind : i64ok c.kind
  req : i64ok c.req
  id : i64ok c.id
  fl : i64ok c.fl
  eq : i64ok c.eq
  cls : i64ok c.cls
  wcab : i64ok c.wcab
  num : i64ok c.num
  lt : c.lt < 256
  rows : ∀ r ∈ c.rows, r.ok
  l0 : i64ok c.l0
  l1 : i64ok c.l1
  l2 : i64ok c.l2
  l3 : i64ok c.l3
inductive CK where
  | equip | flight | book | seat | swap | fl | board | id
def ckOf (k : Int) : CK := if k = 1 then .equip else if k = 2 then .flight else if k = 3 then .book else if k = 6 then .seat else if k = 8 then .swap else if k = 9 ∨ k = 10 ∨ k = 13 ∨ k = 14 then .fl else if k = 12 then .board else .id
abbrev hdC (k q : Int) : CmdM := ⟨k, q, 0, 0, 0, 0, 0, false, false, false, false, 0, 0, [], 0, 0, 0, 0, []⟩
def bareF : CK → CmdM → CmdM
  | .equip, c => { hdC c.kind c.req with id := c.id, rows := c.rows }
  | .flight, c => { hdC c.kind c.req with id := c.id, eq := c.eq, l0 := c.l0, l1 := c.l1, l2 := c.l2, l3 := c.l3 }
  | .book, c => { hdC c.kind c.req with id := c.id, fl := c.fl, cls := c.cls, wcab := c.wcab, fit := c.fit, inf := c.inf, vol := c.vol, stb := c.stb }
  | .seat, c => { hdC c.kind c.req with id := c.id, num := c.num, lt := c.lt }
  | .swap, c => { hdC c.kind c.req with fl := c.fl, eq := c.eq }
  | .fl, c => { hdC c.kind c.req with fl := c.fl }
  | .board, c => { hdC c.kind c.req with text := c.text }
  | .id, c => { hdC c.kind c.req with id := c.id }
def fieldsB : CK → CmdM → Bytes
  | .equip, c => intsB [c.id] ++ (numB c.rows.length ++ rowsBt c.rows)
  | .flight, c => intsB [c.id, c.eq] ++ intsB [c.l0, c.l1, c.l2, c.l3]
  | .book, c => intsB [c.id, c.fl, c.wcab, c.cls] ++ numB (marksN [c.fit, c.inf, c.vol, c.stb])
  | .seat, c => intsB [c.id, c.num] ++ numB c.lt
  | .swap, c => intsB [c.fl, c.eq]
  | .fl, c => intsB [c.fl]
  | .board, c => textB c.text
  | .id, c => intsB [c.id]
theorem ok0 : i64ok 0 := ⟨by decide, by decide⟩
structure FieldR (k : CK) (kd q : Int) (s : RB) (y : CmdM × RB) : Prop where
  bad : s.bad = false
  t : s.t = fieldsB k y.1 ++ y.2.t
  ok : y.1.ok
  bare : bareF k y.1 = y.1
  kind : y.1.kind = kd
  req : y.1.req = q
theorem all1 {a : Int} (ha : i64ok a) : [a].length = 1 ∧ ∀ z ∈ [a], i64ok z := ⟨rfl, by intro z hz; rw [List.mem_singleton] at hz; rw [hz]; exact ha⟩
theorem all2 {a b : Int} (ha : i64ok a) (hb : i64ok b) : [a, b].length = 2 ∧ ∀ z ∈ [a, b], i64ok z := ⟨rfl, by
  intro z hz
  rcases List.mem_cons.1 hz with rfl | hz
  · exact ha
  · exact (all1 hb).2 z hz⟩
theorem all3 {a b c : Int} (ha : i64ok a) (hb : i64ok b) (hc : i64ok c) : [a, b, c].length = 3 ∧ ∀ z ∈ [a, b, c], i64ok z := ⟨rfl, by
  intro z hz
  rcases List.mem_cons.1 hz with rfl | hz
  · exact ha
  · exact (all2 hb hc).2 z hz⟩
theorem all4 {a b c d : Int} (ha : i64ok a) (hb : i64ok b) (hc : i64ok c) (hd : i64ok d) : [a, b, c, d].length = 4 ∧ ∀ z ∈ [a, b, c, d], i64ok z := ⟨rfl, by
  intro z hz
  rcases List.mem_cons.1 hz with rfl | hz
  · exact ha
  · exact (all3 hb hc hd).2 z hz⟩
def smallC (c : CmdM) : Bool := decide (c.rows.length ≤ 20) && decide (c.text.length ≤ 200) && c.rows.all fun r => decide (r.seats.length ≤ 40)
def RightC (c : CmdM) : Prop := 1 ≤ c.kind ∧ c.kind ≤ 15 ∧ smallC c = true ∧ bareF (ckOf c.kind) c = c
instance (c : CmdM) : Decidable (RightC c) := inferInstanceAs (Decidable (_ ∧ _ ∧ _ ∧ _))
end Go.Proofs.YtinkmidjbdnibaaGreatDoor
namespace Go.Proofs
open Go.Shelf
def Tryz.laysAtoi_ren : Go.Shelf.Ren := ⟨fun | 172 => 89 | 244 => 97 | 245 => 98 | 247 => 102 | 279 => 103 | 280 => 104 | 281 => 105 | 282 => 106 | 287 => 116 | 316 => 117 | 171 => 68 | 205 => 118 | 321 => 129 | 322 => 130 | 243 => 90 | 246 => 99 | 283 => 107 | 284 => 108 | 285 => 109 | 286 => 110 | 129 => 120 | 317 => 119 | 318 => 121 | 319 => 122 | 320 => 123 | 337 => 131 | 338 => 132 | n => n, fun | 9 => 9 | 3 => 3 | 75 => 158 | 76 => 159 | 4 => 4 | 5 => 5 | 167 => 170 | 37 => 137 | 0 => 0 | 85 => 171 | 2 => 2 | 168 => 173 | 53 => 109 | 175 => 184 | 46 => 155 | 210 => 187 | 127 => 166 | 145 => 202 | 143 => 200 | 21 => 21 | 171 => 176 | 173 => 178 | 212 => 191 | 51 => 192 | 20 => 20 | 213 => 193 | 232 => 209 | 233 => 210 | 80 => 113 | n => n, fun | 15 => 1 | 16 => 2 | 17 => 3 | 18 => 6 | 19 => 7 | n => n⟩
theorem Tryz.laysAtoi : Go.Proofs.LaysC.n172 Tryz.prog Tryz.laysAtoi_ren := {
  mixed := by kernel_rfl
  f129 := Tryz.func120.trans (congrArg some (by kernel_rfl))
  f171 := Tryz.func68.trans (congrArg some (by kernel_rfl))
  f172 := Tryz.func89.trans (congrArg some (by kernel_rfl))
  f205 := Tryz.func118.trans (congrArg some (by kernel_rfl))
  f243 := Tryz.func90.trans (congrArg some (by kernel_rfl))
  f244 := Tryz.func97.trans (congrArg some (by kernel_rfl))
  f245 := Tryz.func98.trans (congrArg some (by kernel_rfl))
  f246 := Tryz.func99.trans (congrArg some (by kernel_rfl))
  f247 := Tryz.func102.trans (congrArg some (by kernel_rfl))
  f279 := Tryz.func103.trans (congrArg some (by kernel_rfl))
  f280 := Tryz.func104.trans (congrArg some (by kernel_rfl))
  f281 := Tryz.func105.trans (congrArg some (by kernel_rfl))
  f282 := Tryz.func106.trans (congrArg some (by kernel_rfl))
  f283 := Tryz.func107.trans (congrArg some (by kernel_rfl))
  f284 := Tryz.func108.trans (congrArg some (by kernel_rfl))
  f285 := Tryz.func109.trans (congrArg some (by kernel_rfl))
  f286 := Tryz.func110.trans (congrArg some (by kernel_rfl))
  f287 := Tryz.func116.trans (congrArg some (by kernel_rfl))
  f316 := Tryz.func117.trans (congrArg some (by kernel_rfl))
  f317 := Tryz.func119.trans (congrArg some (by kernel_rfl))
  f318 := Tryz.func121.trans (congrArg some (by kernel_rfl))
  f319 := Tryz.func122.trans (congrArg some (by kernel_rfl))
  f320 := Tryz.func123.trans (congrArg some (by kernel_rfl))
  f321 := Tryz.func129.trans (congrArg some (by kernel_rfl))
  f322 := Tryz.func130.trans (congrArg some (by kernel_rfl))
  f337 := Tryz.func131.trans (congrArg some (by kernel_rfl))
  f338 := Tryz.func132.trans (congrArg some (by kernel_rfl))
  t0 := Tryz.underlying0
  a0 := Tryz.isAgg0
  z0 := Tryz.sizeOf0
  v0 := Tryz.zeroValue0
  t2 := Tryz.underlying2
  a2 := Tryz.isAgg2
  z2 := Tryz.sizeOf2
  v2 := Tryz.zeroValue2
  t3 := Tryz.underlying3
  a3 := Tryz.isAgg3
  z3 := Tryz.sizeOf3
  v3 := Tryz.zeroValue3
  t4 := Tryz.underlying4
  a4 := Tryz.isAgg4
  z4 := Tryz.sizeOf4
  v4 := Tryz.zeroValue4
  t5 := Tryz.underlying5
  a5 := Tryz.isAgg5
  z5 := Tryz.sizeOf5
  v5 := Tryz.zeroValue5
  t9 := Tryz.underlying9
  a9 := Tryz.isAgg9
  z9 := Tryz.sizeOf9
  v9 := Tryz.zeroValue9
  t20 := Tryz.underlying20
  a20 := Tryz.isAgg20
  z20 := Tryz.sizeOf20
  v20 := Tryz.zeroValue20
  t21 := Tryz.underlying21
  a21 := Tryz.isAgg21
  z21 := Tryz.sizeOf21
  v21 := Tryz.zeroValue21
  t37 := Tryz.underlying137
  a37 := Tryz.isAgg137
  z37 := Tryz.sizeOf137
  v37 := Tryz.zeroValue137
  t46 := Tryz.underlying155
  a46 := Tryz.isAgg155
  z46 := Tryz.sizeOf155
  v46 := Tryz.zeroValue155
  t51 := Tryz.underlying192
  a51 := Tryz.isAgg192
  z51 := Tryz.sizeOf192
  v51 := Tryz.zeroValue192
  t53 := Tryz.underlying109
  a53 := Tryz.isAgg109
  z53 := Tryz.sizeOf109
  v53 := Tryz.zeroValue109
  t75 := Tryz.underlying158
  a75 := Tryz.isAgg158
  z75 := Tryz.sizeOf158
  v75 := Tryz.zeroValue158
  t76 := Tryz.underlying159
  a76 := Tryz.isAgg159
  z76 := Tryz.sizeOf159
  v76 := Tryz.zeroValue159
  t85 := Tryz.underlying171
  a85 := Tryz.isAgg171
  z85 := Tryz.sizeOf171
  v85 := Tryz.zeroValue171
  t127 := Tryz.underlying166
  a127 := Tryz.isAgg166
  z127 := Tryz.sizeOf166
  v127 := Tryz.zeroValue166
  t143 := Tryz.underlying200
  a143 := Tryz.isAgg200
  z143 := Tryz.sizeOf200
  v143 := Tryz.zeroValue200
  t145 := Tryz.underlying202
  a145 := Tryz.isAgg202
  z145 := Tryz.sizeOf202
  v145 := Tryz.zeroValue202
  t167 := Tryz.underlying170
  a167 := Tryz.isAgg170
  z167 := Tryz.sizeOf170
  v167 := Tryz.zeroValue170
  t168 := Tryz.underlying173
  a168 := Tryz.isAgg173
  z168 := Tryz.sizeOf173
  v168 := Tryz.zeroValue173
  t171 := Tryz.underlying176
  a171 := Tryz.isAgg176
  z171 := Tryz.sizeOf176
  v171 := Tryz.zeroValue176
  t173 := Tryz.underlying178
  a173 := Tryz.isAgg178
  z173 := Tryz.sizeOf178
  v173 := Tryz.zeroValue178
  t175 := Tryz.underlying184
  a175 := Tryz.isAgg184
  z175 := Tryz.sizeOf184
  v175 := Tryz.zeroValue184
  t210 := Tryz.underlying187
  a210 := Tryz.isAgg187
  z210 := Tryz.sizeOf187
  v210 := Tryz.zeroValue187
  t212 := Tryz.underlying191
  a212 := Tryz.isAgg191
  z212 := Tryz.sizeOf191
  v212 := Tryz.zeroValue191
  t213 := Tryz.underlying193
  a213 := Tryz.isAgg193
  z213 := Tryz.sizeOf193
  t232 := Tryz.underlying209
  a232 := Tryz.isAgg209
  z232 := Tryz.sizeOf209
  v232 := Tryz.zeroValue209
  t233 := Tryz.underlying210
  a233 := Tryz.isAgg210
  z233 := Tryz.sizeOf210
  v233 := Tryz.zeroValue210
  g15 := by kernel_rfl
  g16 := by kernel_rfl
  g17 := by kernel_rfl
  g18 := by kernel_rfl
  g19 := by kernel_rfl
  t80 := Tryz.underlying113
  a80 := Tryz.isAgg113
  z80 := Tryz.sizeOf113
  v80 := Tryz.zeroValue113
  i0 := by kernel_rfl
  i2 := by kernel_rfl
  i3 := by kernel_rfl
  i4 := by kernel_rfl
  i5 := by kernel_rfl
  i9 := by kernel_rfl
  i20 := by kernel_rfl
  i21 := by kernel_rfl
  i37 := by kernel_rfl
  i46 := by kernel_rfl
  i51 := by kernel_rfl
  i53 := by kernel_rfl
  i75 := by kernel_rfl
  i76 := by kernel_rfl
  i80 := by kernel_rfl
  i85 := by kernel_rfl
  i127 := by kernel_rfl
  i143 := by kernel_rfl
  i145 := by kernel_rfl
  i167 := by kernel_rfl
  i168 := by kernel_rfl
  i171 := by kernel_rfl
  i173 := by kernel_rfl
  i175 := by kernel_rfl
  i210 := by kernel_rfl
  i212 := by kernel_rfl
  i232 := by kernel_rfl
  i233 := by kernel_rfl
  m15 := by kernel_rfl
  m16 := by kernel_rfl
  m17 := by kernel_rfl
  m18 := by kernel_rfl
  m19 := by kernel_rfl
  c0 := by kernel_rfl
  c2 := by kernel_rfl
  c3 := by kernel_rfl
  c4 := by kernel_rfl
  c5 := by kernel_rfl
  c9 := by kernel_rfl
  c20 := by kernel_rfl
  c21 := by kernel_rfl
  c37 := by kernel_rfl
  c46 := by kernel_rfl
  c51 := by kernel_rfl
  c53 := by kernel_rfl
  c75 := by kernel_rfl
  c76 := by kernel_rfl
  c80 := by kernel_rfl
  c85 := by kernel_rfl
  c127 := by kernel_rfl
  c143 := by kernel_rfl
  c145 := by kernel_rfl
  c167 := by kernel_rfl
  c168 := by kernel_rfl
  c171 := by kernel_rfl
  c173 := by kernel_rfl
  c175 := by kernel_rfl
  c210 := by kernel_rfl
  c212 := by kernel_rfl
  c213 := by kernel_rfl
  c232 := by kernel_rfl
  c233 := by kernel_rfl }
end Go.Proofs
namespace Go.Proofs.YtinkmidjbdnibaaGreatDoor
open Go Go.Eng Go.Proofs Go.RowKit
abbrev errG0 : Nat := 1
abbrev errG1 : Nat := 2
structure ErrVars (w : World) : Prop where
  syn : ∃ t p, w.cell? ⟨errG0, 0, none⟩ = some (.iface t p)
  ran : ∃ t p, w.cell? ⟨errG1, 0, none⟩ = some (.iface t p)
theorem ErrVars.keep {w0 w : World} {T : List Nat} {H : Heap} (h : ErrVars w0) (hS : St w0 T H w) (h0 : errG0 ∉ T) (h1 : errG1 ∉ T) : ErrVars w := by
  obtain ⟨⟨t, p, e⟩, ⟨t', p', e'⟩⟩ := h
  exact ⟨⟨t, p, hS.oldCell h0 e⟩, ⟨t', p', hS.oldCell h1 e'⟩⟩
theorem ErrVars.apart {w : World} (h : ErrVars w) {b : Nat} {x : Value} {l : List Value} {t : TypeId} {fz : Nat × Nat} (hm : w.heap[b]? = some (.cells ⟨x :: l⟩ t fz)) (hx : ∀ t p, x ≠ .iface t p) : b ≠ errG0 ∧ b ≠ errG1 := by
  obtain ⟨⟨t0, p0, e0⟩, ⟨t1, p1, e1⟩⟩ := h
  refine ⟨fun e => ?_, fun e => ?_⟩
  · subst e
    simp [World.cell?, hm] at e0
    exact hx _ _ e0
  · subst e
    simp [World.cell?, hm] at e1
    exact hx _ _ e1
theorem St.of_below {w w' : World} (h : Below w.heap.size w w') : St w [] [] w' :=
  ⟨h.os, h.tape, h.output, h.size, fun b hb _ => h.block b hb, by simp, by simp [keys], by simp⟩
theorem atoiAll_rng {s : Bytes} {v : Int} (h : Lib.atoiAll s = .ok v) : -9223372036854775808 ≤ v ∧ v ≤ 9223372036854775807 := by
  unfold Lib.atoiAll at h
  split at h
  · cases h
  · simp only at h
    split at h
    · cases h
    · cases h
    · split at h
      · cases h
      · split at h
        · cases h
        · simp only [Lib.NumEnd.ok.injEq] at h
          subst h
          split <;> omega
theorem Atoi_specZ {w : World} {s : Bytes} (hs : s.length ≤ 281474976710656) (hE : ErrVars w) : Cl Tryz.prog f_strconv_Atoi [Str s] w fun v w' => St w [] [] w' ∧
    ∃ n ev, v = .tuple ⟨[.int .i64 n, ev]⟩ ∧ (-9223372036854775808 ≤ n ∧ n ≤ 9223372036854775807) ∧ ((Lib.atoiAll s = .ok n ∧ ev = .nilIface) ∨ ((∀ m, Lib.atoiAll s ≠ .ok m) ∧ (n ≤ 0 ∨ 99 < n) ∧ ∃ t p, ev = .iface t p)) := by
  have hsz : (ByteArray.mk (Array.mk s)).size = s.length := rfl
  obtain ⟨⟨t0, p0, e0⟩, ⟨t1, p1, e1⟩⟩ := hE
  refine .inl ⟨Tryz.call89 _ _, ?_⟩
  cases h : Lib.atoiAll s
  · next v =>
    refine Calls.mono (Any.strconv_Atoi_ok Tryz.laysAtoi ⟨⟨s⟩⟩ (by omega) v h w) ?_
    rintro e w' ⟨rfl, hw⟩
    refine ⟨_, rfl, ?_, v, .nilIface, rfl, atoiAll_rng h, .inl ⟨rfl, rfl⟩⟩
    rcases hw with rfl | ⟨t, rfl⟩
    · exact St.start _
    · exact St.of_below (Lib.bytesWorld_below _ _ _)
  · refine Calls.mono (Any.strconv_Atoi_syntax Tryz.laysAtoi ⟨⟨s⟩⟩ (by omega) h _ w e0 (.inr ⟨_, _, rfl⟩)) ?_
    rintro e w' ⟨M, rfl, -, -, hb⟩
    exact ⟨_, rfl, St.of_below hb, 0, _, rfl, ⟨by omega, by omega⟩, .inr ⟨(fun m hm => by cases hm), .inl (Int.le_refl 0), _, _, rfl⟩⟩
  · refine Calls.mono (Any.strconv_Atoi_range Tryz.laysAtoi ⟨⟨s⟩⟩ (by omega) h _ w e1 (.inr ⟨_, _, rfl⟩)) ?_
    rintro e w' ⟨M, rfl, -, -, hb⟩
    exact ⟨_, rfl, St.of_below hb, Lib.atoiSat s, _, rfl, (by unfold Lib.atoiSat; split <;> omega), .inr ⟨(fun m hm => by cases hm), (by unfold Lib.atoiSat; split <;> omega), _, _, rfl⟩⟩
theorem Atoi_spec {w : World} {s : Bytes} (hs : s.length ≤ 281474976710656) (hE : ErrVars w) : Cl Tryz.prog f_strconv_Atoi [Str s] w fun v w' => St w [] [] w' ∧
    ∃ n ev, v = .tuple ⟨[.int .i64 n, ev]⟩ ∧ ((Lib.atoiAll s = .ok n ∧ ev = .nilIface) ∨ ((∀ m, Lib.atoiAll s ≠ .ok m) ∧ (n ≤ 0 ∨ 99 < n) ∧ ∃ t p, ev = .iface t p)) :=
  (Atoi_specZ hs hE).mono fun _ _ ⟨h1, n, ev, h2, _, h3⟩ => ⟨h1, n, ev, h2, h3⟩
end Go.Proofs.YtinkmidjbdnibaaGreatDoor
namespace Go.Proofs.YtinkmidjbdnibaaGreatDoor
open Go Go.Eng Go.Proofs
theorem small_spec {w : World} (n : Nat) (hn : n < 100) : Cl Tryz.prog f_internal_strconv_small [.int .i64 n] w fun v w' => v = Str (digB n) ∧ St w [] [] w' := by
  have hS := St.start w
  refine en_internal_strconv_small rfl ?_
  by_cases h : n < 10
  · refine jq ⟨?_⟩
    refine Chk.mk ⟨by omega, by omega, by show (_ : Int) ≤ ((36 : Nat) : Int); omega⟩ ?_
    refine jq ⟨?_⟩
    refine ⟨?_, hS⟩
    refine congrArg Str ?_
    have key : ∀ i : Fin 10, (List.take ((((i.val : Nat) : Int)) + 1).toNat ([48, 49, 50, 51, 52, 53, 54, 55, 56, 57, 97, 98, 99, 100, 101, 102, 103, 104, 105, 106, 107, 108, 109, 110, 111, 112, 113, 114, 115, 116, 117, 118, 119, 120, 121, 122] : List UInt8)).drop (((i.val : Nat) : Int)).toNat = digB i.val := by decide +kernel
    exact key ⟨n, h⟩
  · refine jq ⟨?_⟩
    refine Chk.mk ⟨by omega, by omega, by show (_ : Int) ≤ ((200 : Nat) : Int); omega⟩ ?_
    refine jq ⟨?_⟩
    refine ⟨?_, hS⟩
    refine congrArg Str ?_
    obtain ⟨i, rfl⟩ : ∃ i : Fin 100, i.val = n := ⟨⟨n, hn⟩, rfl⟩
    clear hS hn
    revert h i
    decide +kernel
theorem Itoa_spec {w : World} (n : Nat) (hn : n < 100) : Cl Tryz.prog f_strconv_Itoa [.int .i64 n] w fun v w' => v = Str (digB n) ∧ St w [] [] w' := by
  have hS := St.start w
  refine en_strconv_Itoa rfl ?_
  refine jq ⟨?_⟩
  refine Cl.mono (P := Tryz.prog) (R := fun v w' => v = Str (digB n) ∧ St w [] [] w') ?_ ?_
  · refine en_internal_strconv_Itoa rfl ?_
    refine jq ⟨?_⟩
    refine Cl.mono (P := Tryz.prog) (R := fun v w' => v = Str (digB n) ∧ St w [] [] w') ?_ ?_
    · refine en_internal_strconv_FormatInt rfl ?_
      refine jq ⟨?_⟩
      refine Cl.mono (small_spec n hn) ?_
      rintro _ w1 ⟨rfl, hS⟩
      refine jq ⟨?_⟩
      exact ⟨rfl, hS⟩
    · rintro _ w1 ⟨rfl, hS⟩
      refine jq ⟨?_⟩
      exact ⟨rfl, hS⟩
  · rintro _ w1 ⟨rfl, hS⟩
    refine jq ⟨?_⟩
    exact ⟨rfl, hS⟩
theorem rune_lt (c : Nat) (h : c < 128) : Utf8.encode (c : Int) = ⟨⟨[UInt8.ofNat c]⟩⟩ := by
  have hv : Utf8.valid (c : Int) = true := by unfold Utf8.valid; simp; omega
  unfold Utf8.encode
  simp only [hv, if_true]
  rw [if_pos (by simpa using h)]
  rfl
theorem runeStr {P : Program} {T0 : Tbl} (hT : TOk P T0) {s d : TypeId} {i id : TI} (hi : tf T0 s = some i) (hid : tf T0 d = some id) (hkd : id.k = .str) {C : World → Prop} {k : IntKind} {c : Nat} (hc : c < 128) {K : Value → Prop} (hK : K (Str [UInt8.ofNat c])) :
    RdG P (convert s d (.int k c)) C K := by
  refine ⟨⟨_, fun w _ => ?_, hK⟩⟩
  obtain ⟨ds, hds⟩ := (hT _ _ hi).some
  have hd := und_of hT hid; rw [hkd] at hd
  rw [run_convert_int_string w s d k c (by rw [hds]; rfl) hd, rune_lt c hc]
theorem between_spec {w : World} (n lo hi : Int) : Cl Tryz.prog f_cabin_between [.int .i64 n, .int .i64 lo, .int .i64 hi] w fun v w' => v = .bool (decide (lo ≤ n) && decide (n ≤ hi)) ∧ St w [] [] w' := by
  have hS := St.start w
  refine en_cabin_between rfl ?_
  by_cases h1 : lo ≤ n
  · refine jq ⟨?_⟩
    rw [decide_eq_true h1]
    exact ⟨rfl, hS⟩
  · refine jq ⟨?_⟩
    rw [decide_eq_false h1]
    exact ⟨rfl, hS⟩
def seatV (num : Int) (c : Nat) : Value := .agg ⟨[.int .i64 num, .int .u8 c]⟩
theorem Label_spec {w : World} (num : Int) (c : Nat) (hc : c < 256) : Cl Tryz.prog f_cabin_Label [seatV num c] w fun v w' => v = Str (labelB num c) ∧ St w [] [] w' := by
  have hS := St.start w
  refine en_cabin_Label rfl ?_
  unfold seatV
  refine jq ⟨?_⟩
  refine hS.al ?_
  intro b w1 _ hS
  have hS : St w [] ((b, .cells ⟨[.int .i64 num, .int .u8 c]⟩ T_api_Seat (0, 0)) :: []) _ := hS
  (repeat (refine jt ⟨?_⟩; refine hS.st rfl rfl ?_; intro _ hS)); refine jt ⟨?_⟩
  refine Cl.mono (between_spec num 1 99) ?_
  rintro _ w2 ⟨rfl, hS'⟩
  have hS := hS.call0 hS'
  by_cases hb : 1 ≤ num ∧ num ≤ 99
  · have hb2 : (decide (1 ≤ num) && decide (num ≤ 99)) = true := by simp [hb.1, hb.2]
    rw [hb2]
    by_cases h1 : c < 65
    · (repeat (refine jt ⟨?_⟩; refine hS.st rfl rfl ?_; intro _ hS)); refine jt ⟨?_⟩
      have : labelB num c = [45] := by unfold labelB; rw [if_neg]; rw [seatOk_iff]; omega
      rw [this]
      exact ⟨rfl, hS.nil⟩
    · by_cases h2 : 90 < c
      · (repeat (refine jt ⟨?_⟩; refine hS.st rfl rfl ?_; intro _ hS)); refine jt ⟨?_⟩
        have : labelB num c = [45] := by unfold labelB; rw [if_neg]; rw [seatOk_iff]; omega
        rw [this]
        exact ⟨rfl, hS.nil⟩
      · have hl : labelB num c = digB num.toNat ++ [UInt8.ofNat c] := by unfold labelB; rw [if_pos]; rw [seatOk_iff]; omega
        obtain ⟨n, rfl⟩ := Int.eq_ofNat_of_zero_le (show 0 ≤ num by omega)
        (repeat (refine jt ⟨?_⟩; refine hS.st rfl rfl ?_; intro _ hS)); refine jt ⟨?_⟩
        refine SemW.draw tblOk mixed (fun w' => St w [] ((b, .cells ⟨[.int .i64 (n : Nat), .int .u8 c]⟩ T_api_Seat (0, 0)) :: []) w') [] [0, 1, 3, 4, 5, 6, 2, 7, 8] (by kernel_rfl) hS.drew ?_
        have hS := hS.drew
        refine jr ⟨?_⟩
        have hw : IntKind.i32.wrap (c : Int) = (c : Int) := by unfold IntKind.wrap; simp [IntKind.signed, IntKind.bits]; omega
        rw [hw]
        refine jr ⟨?_⟩
        refine runeStr (s := T_int32) (d := T_string) (c := c) tblOk rfl rfl rfl (by omega) ?_
        refine jr ⟨?_⟩
        refine Cl.mono (Itoa_spec n (by omega)) ?_
        rintro _ w3 ⟨rfl, hS'⟩
        have hS := hS.call0 hS'
        refine Chk.mk hS ?_
        refine jr ⟨?_⟩
        refine Chk.mk (by have : (digB n).length ≤ 2 := by unfold digB; split <;> simp
                          simp only [List.length_singleton]; omega) ?_
        refine jr ⟨?_⟩
        rw [hl]
        exact ⟨rfl, hS.nil⟩
  · have : labelB num c = [45] := by unfold labelB; rw [if_neg]; rw [seatOk_iff]; omega
    rw [this]
    have hb' : (decide (1 ≤ num) && decide (num ≤ 99)) = false := by simp; omega
    rw [hb']
    (repeat (refine jt ⟨?_⟩; refine hS.st rfl rfl ?_; intro _ hS)); refine jt ⟨?_⟩
    exact ⟨rfl, hS.nil⟩
end Go.Proofs.YtinkmidjbdnibaaGreatDoor
namespace Go.Eng
open Go
theorem neqHeld {P : Program} {T0 : Tbl} (hT : TOk P T0) {t : TypeId} {i : TI} (hi : tf T0 t = some i) (hk : i.k = .iface) {x y : Operand} {u : TypeId} {v : Value} {K : Value → Prop} (hK : K (.bool true)) :
    PureRun P (do eqGuard .neq t x y (.iface u v) .nilIface; binOp .neq t (.iface u v) .nilIface) K := by
  have h := und_of hT hi; rw [hk] at h
  obtain ⟨ms, h⟩ := h
  have h2 : P.underlying t = some (.interface (P.methodsAt t)) := by simp [Program.methodsAt, h]
  refine ⟨_, fun w => ?_, hK⟩
  rw [Sem.run_bind, run_eqGuard_of P .neq t x y _ _ w (by intro c h; cases h) (by intro h; cases h)]
  exact run_neq_held_nil w t u v h2
theorem neqNilNil {P : Program} {T0 : Tbl} (hT : TOk P T0) {t : TypeId} {i : TI} (hi : tf T0 t = some i) (hk : i.k = .iface) {x : Operand} {c : Value} {K : Value → Prop} (hK : K (.bool false)) :
    PureRun P (do eqGuard .neq t x (.const c) .nilIface .nilIface; binOp .neq t .nilIface .nilIface) K := by
  have h := und_of hT hi; rw [hk] at h
  obtain ⟨ms, h⟩ := h
  have h2 : P.underlying t = some (.interface (P.methodsAt t)) := by simp [Program.methodsAt, h]
  refine ⟨_, fun w => ?_, hK⟩
  have h3 : (eqGuard .neq t x (.const c) .nilIface .nilIface).run P w = .ok () w := by simp [eqGuard]
  rw [Sem.run_bind, h3]
  exact run_neq_nil_nil w t h2
end Go.Eng
namespace Go.Proofs.YtinkmidjbdnibaaGreatDoor
open Go Go.Eng Go.Proofs
def parseB (s : Bytes) : Option (Int × Nat) := match s.getLast? with
  | none => none
  | some c => match Lib.atoiAll s.dropLast with
    | .ok n => if labelB n c.toNat = s then some (n, c.toNat) else none
    | _ => none
theorem atoi_dig : ∀ n : Fin 100, 1 ≤ n.val → Lib.atoiAll (digB n.val) = .ok (n.val : Int) := by decide +kernel
theorem parseB_label {n : Int} {c : Nat} (h : seatOk n c = true) : parseB (labelB n c) = some (n, c) := by
  obtain ⟨h1, h2, h3, h4⟩ := seatOk_iff.1 h
  have e : labelB n c = digB n.toNat ++ [UInt8.ofNat c] := by unfold labelB; rw [if_pos h]
  have hc : (UInt8.ofNat c).toNat = c := by simp; omega
  have ha := atoi_dig ⟨n.toNat, by omega⟩ (by show 1 ≤ n.toNat; omega)
  simp only at ha
  have hn : ((n.toNat : Nat) : Int) = n := by omega
  rw [hn] at ha
  have hgl : (labelB n c).getLast? = some (UInt8.ofNat c) := by rw [e]; simp
  have hdl : (labelB n c).dropLast = digB n.toNat := by rw [e]; simp
  unfold parseB
  rw [hgl]
  simp only
  rw [hdl, ha]
  simp only
  rw [hc, if_pos rfl]
theorem parseB_some {s : Bytes} {n : Int} {c : Nat} (h : parseB s = some (n, c)) : seatOk n c = true ∧ labelB n c = s := by
  unfold parseB at h
  cases hl : s.getLast? with
  | none => rw [hl] at h; cases h
  | some x =>
    rw [hl] at h
    simp only at h
    cases ha : Lib.atoiAll s.dropLast
    · rename_i m
      rw [ha] at h
      simp only at h
      split at h
      · rename_i he
        simp only [Option.some.injEq, Prod.mk.injEq] at h
        obtain ⟨rfl, rfl⟩ := h
        refine ⟨?_, he⟩
        cases hs : seatOk m x.toNat with
        | true => rfl
        | false =>
          have : labelB m x.toNat = [45] := (labelB_dash _ _).2 hs
          rw [this] at he
          subst he
          cases ha
      · cases h
    · rw [ha] at h; cases h
    · rw [ha] at h; cases h
def parseO (s : Bytes) : Int × Nat × Bool := match parseB s with
  | some (n, c) => (n, c, true)
  | none => (0, 0, false)
def seatAt (n : Int) (c : Nat) : Value := .agg ⟨[.int .i64 n, .int .u8 c]⟩
set_option maxHeartbeats 1000000 in
theorem Parse_spec {w : World} {s : Bytes} (hs : s.length ≤ 70368744177664) (hE : ErrVars w) :
    Cl Tryz.prog f_cabin_Parse [Str s] w fun v w' => v = .tuple ⟨[seatAt (parseO s).1 (parseO s).2.1, .bool (parseO s).2.2]⟩ ∧ St w [] [] w' := by
  have hS := St.start w
  refine en_cabin_Parse rfl ?_
  unfold seatAt parseO
  rcases List.eq_nil_or_concat s with rfl | ⟨s', c, rfl⟩
  · have hp : parseB [] = none := rfl
    rw [hp]
    refine jq ⟨?_⟩
    refine hS.al ?_
    intro b w1 _ hS
    (repeat (refine jt ⟨?_⟩; refine hS.st rfl rfl ?_; intro _ hS)); refine jt ⟨?_⟩
    exact ⟨rfl, hS.nil⟩
  · have hsl : (s' ++ [c]).length = s'.length + 1 := by simp
    have htk : (s' ++ [c]).take s'.length = s' := by simp
    have hgl : (s' ++ [c]).getLast? = some c := by simp
    have hdl : (s' ++ [c]).dropLast = s' := by simp
    have hne : ¬ (s' ++ [c]) = [] := by simp
    have hcc : (s' ++ [c]).getD s'.length 0 = c := by simp
    rw [List.concat_eq_append] at *
    obtain ⟨s, hse⟩ : ∃ s, s = s' ++ [c] := ⟨_, rfl⟩
    rw [← hse] at hs hsl htk hgl hdl hne hcc ⊢
    have hcl := c.toNat_lt
    refine jq ⟨?_⟩
    refine hS.al ?_
    intro b w1 _ hS
    have hE1 := hE.keep hS (by simp) (by simp)
    (repeat (refine jt ⟨?_⟩; refine hS.st rfl rfl ?_; intro _ hS)); refine jt ⟨?_⟩
    have e1 : ((s.length : Int) - 1).toNat = s'.length := by omega
    rw [e1, htk]
    refine Cl.mono (Atoi_spec (s := s') (by omega) hE1) ?_
    rintro _ w2 ⟨hS', n, ev, rfl, hev⟩
    have hS := hS.call0 hS'
    have hpb : parseB s = match Lib.atoiAll s' with
        | .ok n => if labelB n c.toNat = s then some (n, c.toNat) else none
        | _ => none := by unfold parseB; rw [hgl]; simp only; rw [hdl]
    rcases hev with ⟨ha, rfl⟩ | ⟨ha, -, t, q, rfl⟩
    · rw [ha] at hpb
      simp only at hpb
      have hLb := Label_spec (w := w2) n c.toNat hcl
      by_cases hlab : labelB n c.toNat = s
      · rw [if_pos hlab] at hpb
        rw [hpb]
        (repeat (refine jt ⟨?_⟩; refine hS.st rfl rfl ?_; intro _ hS)); refine jt ⟨?_⟩
        rw [e1, hcc]
        (repeat (refine jt ⟨?_⟩; refine hS.st rfl rfl ?_; intro _ hS)); refine jt ⟨?_⟩
        refine hS.al ?_
        intro b2 w3 _ hS
        (repeat (refine jt ⟨?_⟩; refine hS.st rfl rfl ?_; intro _ hS)); refine jt ⟨?_⟩
        refine neqNilNil tblOk rfl rfl ?_
        (repeat (refine jt ⟨?_⟩; refine hS.st rfl rfl ?_; intro _ hS)); refine jt ⟨?_⟩
        refine Cl.mono (Label_spec n c.toNat hcl) ?_
        rintro _ w4 ⟨rfl, hS'⟩
        have hS := hS.call0 hS'
        rw [hlab]
        (repeat (refine jt ⟨?_⟩; refine hS.st rfl rfl ?_; intro _ hS)); refine jt ⟨?_⟩
        exact ⟨rfl, hS.nil⟩
      · rw [if_neg hlab] at hpb
        rw [hpb]
        (repeat (refine jt ⟨?_⟩; refine hS.st rfl rfl ?_; intro _ hS)); refine jt ⟨?_⟩
        rw [e1, hcc]
        (repeat (refine jt ⟨?_⟩; refine hS.st rfl rfl ?_; intro _ hS)); refine jt ⟨?_⟩
        refine hS.al ?_
        intro b2 w3 _ hS
        (repeat (refine jt ⟨?_⟩; refine hS.st rfl rfl ?_; intro _ hS)); refine jt ⟨?_⟩
        refine neqNilNil tblOk rfl rfl ?_
        (repeat (refine jt ⟨?_⟩; refine hS.st rfl rfl ?_; intro _ hS)); refine jt ⟨?_⟩
        refine Cl.mono (Label_spec n c.toNat hcl) ?_
        rintro _ w4 ⟨rfl, hS'⟩
        have hS := hS.call0 hS'
        (repeat (refine jt ⟨?_⟩; refine hS.st rfl rfl ?_; intro _ hS)); refine jt ⟨?_⟩
        exact ⟨rfl, hS.nil⟩
    · have hpn : parseB s = none := by
        rw [hpb]
        cases h : Lib.atoiAll s'
        · exact absurd h (ha _)
        · rfl
        · rfl
      rw [hpn]
      (repeat (refine jt ⟨?_⟩; refine hS.st rfl rfl ?_; intro _ hS)); refine jt ⟨?_⟩
      rw [e1, hcc]
      (repeat (refine jt ⟨?_⟩; refine hS.st rfl rfl ?_; intro _ hS)); refine jt ⟨?_⟩
      refine hS.al ?_
      intro b2 w3 _ hS
      (repeat (refine jt ⟨?_⟩; refine hS.st rfl rfl ?_; intro _ hS)); refine jt ⟨?_⟩
      refine neqHeld tblOk rfl rfl ?_
      (repeat (refine jt ⟨?_⟩; refine hS.st rfl rfl ?_; intro _ hS)); refine jt ⟨?_⟩
      exact ⟨rfl, hS.nil⟩
def lRow (s : RB) : RowM × RB := tk (wInts 3 s) fun l s => tk (rbNum s) fun n s => tk (wText s) fun x s => (⟨l.getD 0 0, l.getD 1 0, l.getD 2 0, decide (n = 1), x⟩, s)
def lRows : Nat → RB × List RowM → RB × List RowM
  | 0, x => x
  | n + 1, (s, l) => if s.bad = true then (s, l) else lRows n ((lRow s).2, l ++ [(lRow s).1])
def lRowsT (t : Bytes) : RB × List RowM := lRows (rbNum ⟨t, false⟩).1 ((rbNum ⟨t, false⟩).2, [])
theorem lRow_ok (s : RB) : (lRow s).1.ok := ⟨getD_ok (wInts_ok 3 s) 0, getD_ok (wInts_ok 3 s) 1, getD_ok (wInts_ok 3 s) 2⟩
theorem lRows_ok : ∀ (n : Nat) (s : RB) (l : List RowM), (∀ f ∈ l, f.ok) → ∀ f ∈ (lRows n (s, l)).2, f.ok
  | 0, s, l, h => h
  | n + 1, s, l, h => by
    unfold lRows
    split
    · exact h
    · refine lRows_ok n _ _ fun f hf => ?_
      rcases List.mem_append.1 hf with hf | hf
      · exact h f hf
      · rw [List.mem_singleton] at hf; subst hf; exact lRow_ok s
def lPax (t : Bytes) (id : Int) : PaxM × RB := tk (wInts 6 ⟨t, false⟩) fun l s => tk (rbNum s) fun n s => tk (wText s) fun x s =>
  (⟨id, l.getD 0 0, l.getD 1 0, (bitsN 4 n).getD 0 false, (bitsN 4 n).getD 1 false, (bitsN 4 n).getD 2 false, (bitsN 4 n).getD 3 false, l.getD 2 0, l.getD 3 0, l.getD 4 0, l.getD 5 0, (parseO x).1, (parseO x).2.1⟩,
   ⟨s.t, s.bad || (!(parseO x).2.2 && decide (x ≠ []))⟩)
theorem parseO_ok (x : Bytes) : i64ok (parseO x).1 ∧ (parseO x).2.1 < 256 := by
  unfold parseO
  cases h : parseB x with
  | none => exact ⟨ok0, by decide⟩
  | some z =>
    obtain ⟨n, c⟩ := z
    obtain ⟨h1, -⟩ := parseB_some h
    obtain ⟨a1, a2, a3, a4⟩ := seatOk_iff.1 h1
    exact ⟨⟨by simp only; omega, by simp only; omega⟩, by simp only; omega⟩
theorem lPax_ok (t : Bytes) {id : Int} (h : i64ok id) : (lPax t id).1.ok :=
  ⟨h, getD_ok (wInts_ok 6 _) 0, getD_ok (wInts_ok 6 _) 1, getD_ok (wInts_ok 6 _) 2, getD_ok (wInts_ok 6 _) 3, getD_ok (wInts_ok 6 _) 4, getD_ok (wInts_ok 6 _) 5, (parseO_ok _).1, (parseO_ok _).2⟩
structure ReplyM where
  code : Int
  ids : List Int
  n0 : Int
  n1 : Int
  n2 : Int
  n3 : Int
  over : Bool
  pax : PaxM
  text : Bytes
structure ReplyM.ok (a : ReplyM) : Prop where
  code : i64ok a.code
  ids : ∀ z ∈ a.ids, i64ok z
  n0 : i64ok a.n0
  n1 : i64ok a.n1
  n2 : i64ok a.n2
  n3 : i64ok a.n3
  pax : a.pax.ok
def paxI (p : PaxM) : List Int := [p.id, p.flight, p.cab, p.cls, p.status, p.tick, p.pass]
def replyB (a : ReplyM) : Bytes := intsB [a.code] ++ (numB a.ids.length ++ (intsB a.ids ++ (intsB [a.n0, a.n1, a.n2, a.n3] ++ (numB (marksN [a.over]) ++ (intsB (paxI a.pax) ++ (numB (marksN [a.pax.fit, a.pax.infant, a.pax.vol, a.pax.stb]) ++ (textB (seatB a.pax.num a.pax.c) ++ textB a.text)))))))
def seatGood (n : Int) (c : Nat) : Bool := decide (seatB n c ≠ [45])
def seatS (x : Bytes) : Option (Int × Nat) := if x = [] then some (0, 0) else parseB x
theorem seatS_of {n : Int} {c : Nat} (h : seatGood n c = true) : seatS (seatB n c) = some (n, c) := by
  unfold seatGood at h
  have h := of_decide_eq_true h
  unfold seatB at h ⊢
  by_cases hz : n = 0 ∧ c = 0
  · rw [if_pos hz, hz.1, hz.2]; rfl
  · rw [if_neg hz] at h ⊢
    have hs : seatOk n c = true := by
      cases hs : seatOk n c with
      | true => rfl
      | false => exact absurd ((labelB_dash n c).2 hs) h
    have hl := (labelB_len n c).1
    unfold seatS
    rw [if_neg (by intro e; rw [e] at hl; exact absurd hl (by decide)), parseB_label hs]
theorem seatS_some {x : Bytes} {n : Int} {c : Nat} (h : seatS x = some (n, c)) : seatB n c = x ∧ seatGood n c = true ∧ i64ok n ∧ c < 256 := by
  unfold seatS at h
  split at h
  · next hx =>
    simp only [Option.some.injEq, Prod.mk.injEq] at h
    obtain ⟨rfl, rfl⟩ := h
    exact ⟨by rw [hx]; rfl, by decide, ok0, by omega⟩
  · next hx =>
    obtain ⟨h1, h2⟩ := parseB_some h
    obtain ⟨a1, a2, a3, a4⟩ := seatOk_iff.1 h1
    have e : seatB n c = x := by unfold seatB; rw [if_neg (by rintro ⟨h, -⟩; omega), h2]
    refine ⟨e, ?_, ⟨by omega, by omega⟩, by omega⟩
    unfold seatGood
    rw [e]
    refine decide_eq_true fun hd => ?_
    rw [← h2, labelB_dash, h1] at hd
    cases hd
def withSeat (a : ReplyM) (n : Int) (c : Nat) : ReplyM := { a with pax := { a.pax with num := n, c := c } }
structure ReplyR (s : RB) (y : (ReplyM × Bytes) × RB) : Prop where
  bad : s.bad = false
  t : ∀ n c, seatB n c = y.1.2 → s.t = replyB (withSeat y.1.1 n c) ++ y.2.t
  ok : ∀ n c, i64ok n → c < 256 → (withSeat y.1.1 n c).ok
theorem intsB_min (l : List Int) : l.length ≤ (intsB l).length := by
  induction l with
  | nil => exact Nat.zero_le _
  | cons z l ih =>
    have := numB_pos (zig z)
    simp only [intsB, List.map_cons, List.flatten_cons, List.length_append, List.length_cons, intB] at ih ⊢
    omega
theorem lRow_app (a : RowM) (r : Bytes) (h : a.ok ∧ a.seats.length < 18446744073709551616) : lRow ⟨rowB a ++ r, false⟩ = (a, ⟨r, false⟩) := by
  have e : rowB a ++ r = intsB [a.num, a.cab, a.zone] ++ (numB (marksN [a.exit]) ++ (textB a.seats ++ r)) := by simp [rowB, textsB]
  have hm := marksN_lt [a.exit]
  rw [e]
  unfold lRow tk
  rw [(wInts_codec 3).app _ _ (all3 h.1.num h.1.cab h.1.zone)]
  simp only
  rw [rbNum_app _ _ (by simp only [List.length_singleton] at hm; omega)]
  simp only
  rw [wText_codec.app _ _ h.2]
  have e2 : decide (marksN [a.exit] = 1) = a.exit := by cases a.exit <;> rfl
  rw [e2]
  rfl
theorem lRows_app : ∀ (m : List RowM) (r : Bytes) (l : List RowM), (∀ x ∈ m, x.ok ∧ x.seats.length < 18446744073709551616) → lRows m.length (⟨rowsBt m ++ r, false⟩, l) = (⟨r, false⟩, l ++ m)
  | [], r, l, _ => by simp [lRows, rowsBt]
  | f :: m, r, l, h => by
    rw [List.length_cons]
    unfold lRows
    rw [if_neg nofun]
    have e : rowsBt (f :: m) ++ r = rowB f ++ (rowsBt m ++ r) := by simp [rowsBt]
    rw [e, lRow_app f _ (h f List.mem_cons_self)]
    simp only
    rw [lRows_app m r _ fun g hg => h g (List.mem_cons_of_mem _ hg)]
    simp
theorem all6 {a b c d e f : Int} (ha : i64ok a) (hb : i64ok b) (hc : i64ok c) (hd : i64ok d) (he : i64ok e) (hf : i64ok f) : [a, b, c, d, e, f].length = 6 ∧ ∀ z ∈ [a, b, c, d, e, f], i64ok z := ⟨rfl, by
  intro z hz
  rcases List.mem_cons.1 hz with rfl | hz
  · exact ha
  rcases List.mem_cons.1 hz with rfl | hz
  · exact hb
  · exact (all4 hc hd he hf).2 z hz⟩
theorem parseO_seat {n : Int} {c : Nat} (h : seatGood n c = true) : (parseO (seatB n c)).1 = n ∧ (parseO (seatB n c)).2.1 = c ∧ (!(parseO (seatB n c)).2.2 && decide (seatB n c ≠ [])) = false := by
  have hs := seatS_of h
  unfold seatS at hs
  split at hs
  · next he =>
    simp only [Option.some.injEq, Prod.mk.injEq] at hs
    rw [he]
    exact ⟨by rw [← hs.1]; rfl, by rw [← hs.2]; rfl, rfl⟩
  · unfold parseO
    rw [hs]
    exact ⟨rfl, rfl, rfl⟩
theorem lPax_app (p : PaxM) (r : Bytes) (hp : p.ok) (hs : seatGood p.num p.c = true) : lPax (intsB [p.flight, p.cab, p.cls, p.status, p.tick, p.pass] ++ (numB (marksN [p.fit, p.infant, p.vol, p.stb]) ++ (textB (seatB p.num p.c) ++ r))) p.id = (p, ⟨r, false⟩) := by
  have hm := marksN_lt [p.fit, p.infant, p.vol, p.stb]
  have hl := seatB_len p.num p.c
  obtain ⟨e1, e2, e3⟩ := parseO_seat hs
  unfold lPax tk
  rw [(wInts_codec 6).app _ _ (all6 hp.flight hp.cab hp.cls hp.status hp.tick hp.pass)]
  simp only
  rw [rbNum_app _ _ (by simp only [List.length_cons, List.length_nil] at hm; omega)]
  simp only
  rw [show bitsN 4 (marksN [p.fit, p.infant, p.vol, p.stb]) = _ from bits_marksN [p.fit, p.infant, p.vol, p.stb], wText_codec.app _ _ (by omega)]
  simp only
  rw [e1, e2, e3]
  rfl
theorem rbInt_len' (s : RB) : (rbInt s).2.t.length ≤ s.t.length := intO_len s.t
theorem wInts_tlen : ∀ (k : Nat) (s : RB), (wInts k s).2.t.length ≤ s.t.length
  | 0, _ => Nat.le_refl _
  | k + 1, s => Nat.le_trans (wInts_tlen k _) (rbInt_len' s)
theorem wText_tlen (s : RB) : (wText s).2.t.length ≤ s.t.length := by
  have := textO_len s.t
  unfold wText; simp only; omega
theorem textO_err (t : Bytes) : (textO t).2.1 = 0 ∨ (textO t).2.1 = 1 := by
  unfold textO
  cases textR t with
  | none => exact .inr rfl
  | some x => exact .inl rfl
theorem bitsN_get : ∀ (k n i : Nat) (h : i < (bitsN k n).length), (bitsN k n)[i] = decide (n / 2 ^ i % 2 = 1)
  | 0, _, _, h => by simp [bitsN] at h
  | k + 1, n, 0, _ => by simp [bitsN]
  | k + 1, n, i + 1, h => by
    have := bitsN_get k (n / 2) i (by simpa [bitsN] using h)
    simp only [bitsN, List.getElem_cons_succ]
    rw [this, Nat.div_div_eq_div_mul, Nat.pow_succ, Nat.mul_comm]
theorem shr_u (n i : Nat) (hi : i < 64) : (n : Int).fdiv (2 ^ (min ((i : Int)).toNat IntKind.u64.bits)) = ((n / 2 ^ i : Nat) : Int) := by
  have e : min ((i : Int)).toNat IntKind.u64.bits = i := by show min i 64 = i; omega
  rw [e]
  have h2 : ((2 : Int) ^ i) = ((2 ^ i : Nat) : Int) := by simp
  rw [h2, Int.fdiv_eq_ediv_of_nonneg _ (Int.natCast_nonneg _)]
  exact (Int.natCast_ediv n (2 ^ i)).symm
theorem and_one (n : Nat) (h : n < 18446744073709551616) : andI .u64 (n : Int) 1 = ((n % 2 : Nat) : Int) := by
  have e := andU .u64 rfl n 1 (show n < 18446744073709551616 by omega) (show 1 < 18446744073709551616 by omega)
  rw [Nat.and_one_is_mod] at e
  exact e
abbrev rrC (rb : Nat) (bad : Bool) : Obj := .cells ⟨[ptr rb, .bool bad]⟩ T_rows_reader (0, 0)
abbrev rrH (xr rb : Nat) (s : RB) : Heap := [(xr, rrC rb s.bad), (rb, rdC s.t)]
theorem numO_e2 (t : Bytes) : (numO t).2.1 = 0 ∨ (numO t).2.1 = 1 := by
  unfold numO; split <;> simp
set_option maxHeartbeats 1000000 in
theorem rrnum_spec {w : World} {xr rb : Nat} {s : RB} (hh : Holds (rrH xr rb s) w) (ht : s.t.length ≤ 70368744177664) :
    Cl Tryz.prog f_rows_reader_num [ptr xr] w fun v w' => v = .int .u64 (rbNum s).1 ∧ St w [xr, rb] (rrH xr rb (rbNum s).2) w' := by
  obtain ⟨t, bd⟩ := s
  have hS : St w [xr, rb] [(xr, rrC rb bd), (rb, rdC t)] w := St.enter hh
  have he := numO_e2 t
  unfold rbNum
  refine en_rows_reader_num rfl ?_
  (repeat (refine jt ⟨?_⟩; refine hS.st rfl rfl ?_; intro _ hS)); refine jt ⟨?_⟩
  refine Cl.mono (RNum_spec (t := t) (hS.part (L := [(rb, rdC t)])) ht) ?_
  rintro _ w1 ⟨rfl, hS'⟩
  have hS := hS.call (L := [(rb, rdC t)]) hS'
  simp only at he ⊢
  generalize numO t = y at hS he ⊢
  obtain ⟨n, e, t'⟩ := y
  simp only at hS he ⊢
  rcases he with rfl | rfl
  · cases bd
    · (repeat (refine jt ⟨?_⟩; refine hS.st rfl rfl ?_; intro _ hS)); refine jt ⟨?_⟩
      exact ⟨rfl, hS⟩
    · (repeat (refine jt ⟨?_⟩; refine hS.st rfl rfl ?_; intro _ hS)); refine jt ⟨?_⟩
      exact ⟨rfl, hS⟩
  · cases bd
    · (repeat (refine jt ⟨?_⟩; refine hS.st rfl rfl ?_; intro _ hS)); refine jt ⟨?_⟩
      exact ⟨rfl, hS⟩
    · (repeat (refine jt ⟨?_⟩; refine hS.st rfl rfl ?_; intro _ hS)); refine jt ⟨?_⟩
      exact ⟨rfl, hS⟩
set_option maxHeartbeats 1000000 in
theorem rrint_spec {w : World} {xr rb : Nat} {s : RB} (hh : Holds (rrH xr rb s) w) (ht : s.t.length ≤ 70368744177664) :
    Cl Tryz.prog f_rows_reader_int [ptr xr] w fun v w' => v = .int .i64 (rbInt s).1 ∧ St w [xr, rb] (rrH xr rb (rbInt s).2) w' := by
  obtain ⟨t, bd⟩ := s
  have hS : St w [xr, rb] [(xr, rrC rb bd), (rb, rdC t)] w := St.enter hh
  have he : (intO t).2.1 = 0 ∨ (intO t).2.1 = 1 := numO_e2 t
  unfold rbInt
  refine en_rows_reader_int rfl ?_
  (repeat (refine jt ⟨?_⟩; refine hS.st rfl rfl ?_; intro _ hS)); refine jt ⟨?_⟩
  refine Cl.mono (RInt_spec (t := t) (hS.part (L := [(rb, rdC t)])) ht) ?_
  rintro _ w1 ⟨rfl, hS'⟩
  have hS := hS.call (L := [(rb, rdC t)]) hS'
  simp only at he ⊢
  generalize intO t = y at hS he ⊢
  obtain ⟨n, e, t'⟩ := y
  simp only at hS he ⊢
  rcases he with rfl | rfl
  · cases bd
    · (repeat (refine jt ⟨?_⟩; refine hS.st rfl rfl ?_; intro _ hS)); refine jt ⟨?_⟩
      exact ⟨rfl, hS⟩
    · (repeat (refine jt ⟨?_⟩; refine hS.st rfl rfl ?_; intro _ hS)); refine jt ⟨?_⟩
      exact ⟨rfl, hS⟩
  · cases bd
    · (repeat (refine jt ⟨?_⟩; refine hS.st rfl rfl ?_; intro _ hS)); refine jt ⟨?_⟩
      exact ⟨rfl, hS⟩
    · (repeat (refine jt ⟨?_⟩; refine hS.st rfl rfl ?_; intro _ hS)); refine jt ⟨?_⟩
      exact ⟨rfl, hS⟩
set_option maxHeartbeats 1000000 in
theorem rrtext_spec {w : World} {xr rb : Nat} {s : RB} (hh : Holds (rrH xr rb s) w) (ht : s.t.length ≤ 70368744177664) :
    Cl Tryz.prog f_rows_reader_text [ptr xr] w fun v w' => v = Str (wText s).1 ∧ St w [xr, rb] (rrH xr rb (wText s).2) w' := by
  obtain ⟨t, bd⟩ := s
  have hS : St w [xr, rb] [(xr, rrC rb bd), (rb, rdC t)] w := St.enter hh
  have he := textO_err t
  unfold wText
  refine en_rows_reader_text rfl ?_
  (repeat (refine jt ⟨?_⟩; refine hS.st rfl rfl ?_; intro _ hS)); refine jt ⟨?_⟩
  refine Cl.mono (RText_spec (t := t) (hS.part (L := [(rb, rdC t)])) ht) ?_
  rintro _ w1 ⟨rfl, hS'⟩
  have hS := hS.call (L := [(rb, rdC t)]) hS'
  simp only at he ⊢
  generalize textO t = y at hS he ⊢
  obtain ⟨n, e, t'⟩ := y
  simp only at hS he ⊢
  rcases he with rfl | rfl
  · cases bd
    · (repeat (refine jt ⟨?_⟩; refine hS.st rfl rfl ?_; intro _ hS)); refine jt ⟨?_⟩
      exact ⟨rfl, hS⟩
    · (repeat (refine jt ⟨?_⟩; refine hS.st rfl rfl ?_; intro _ hS)); refine jt ⟨?_⟩
      exact ⟨rfl, hS⟩
  · cases bd
    · (repeat (refine jt ⟨?_⟩; refine hS.st rfl rfl ?_; intro _ hS)); refine jt ⟨?_⟩
      exact ⟨rfl, hS⟩
    · (repeat (refine jt ⟨?_⟩; refine hS.st rfl rfl ?_; intro _ hS)); refine jt ⟨?_⟩
      exact ⟨rfl, hS⟩
def rMarks (k : Nat) (s : RB) : List Bool × RB := (bitsN k (rbNum s).1, ⟨(rbNum s).2.t, (rbNum s).2.bad || decide (2 ^ k ≤ (rbNum s).1)⟩)
structure MKI where
  l : List Bool
  a : Option Addr
  c : Nat
theorem shr_zero (n k : Nat) : (((n / 2 ^ k : Nat) : Int) = 0) ↔ ¬ 2 ^ k ≤ n := by
  have := Nat.two_pow_pos k
  constructor
  · intro h h2
    have h3 : n / 2 ^ k = 0 := by omega
    have := Nat.div_pos h2 (by omega)
    omega
  · intro h
    have := Nat.div_eq_of_lt (Nat.lt_of_not_le h)
    omega
set_option maxHeartbeats 4000000 in
theorem rrmarks_spec {w : World} {xr rb : Nat} {s : RB} (k : Nat) (hk : k ≤ 8) (hh : Holds (rrH xr rb s) w) (ht : s.t.length ≤ 70368744177664) :
    Cl Tryz.prog f_rows_reader_marks [ptr xr, .int .i64 k] w fun v w' => ∃ a c L, v = .slice a k c ∧ Vec T_bool 1 a k c ((rMarks k s).1.map Value.bool) L ∧ St w [xr, rb] (rrH xr rb (rMarks k s).2 ++ L) w' := by
  have hS : St w [xr, rb] (rrH xr rb s) w := St.enter hh
  unfold rMarks
  refine en_rows_reader_marks rfl ?_
  (repeat (refine jt ⟨?_⟩; refine hS.st rfl rfl ?_; intro _ hS)); refine jt ⟨?_⟩
  refine Cl.mono (rrnum_spec (s := s) (hS.part (L := rrH xr rb s)) ht) ?_
  rintro _ w1 ⟨rfl, hS'⟩
  have hS := hS.call (L := rrH xr rb s) hS'
  have hn : (rbNum s).1 < 18446744073709551616 := numO_lt s.t
  generalize rbNum s = y at hS hn ⊢
  obtain ⟨n, t, bd⟩ := y
  simp only at hS hn ⊢
  have hS : St w [xr, rb] [(xr, .cells ⟨[ptr rb, .bool bd]⟩ T_rows_reader (0, 0)), (rb, rdC t)] _ := hS
  have hbl := bitsN_len k n
  have hsh := shr_u n k (by omega)
  have hz := shr_zero n k
  have hdl0 : n / 2 ^ k ≤ n := Nat.div_le_self _ _
  cases bd with
  | true =>
    rw [Bool.true_or]
    (repeat (refine jt ⟨?_⟩; refine hS.st rfl rfl ?_; intro _ hS)); refine jt ⟨?_⟩
    refine SemW.loop (fun z : MKI => [(5, .int .u64 n), (6, .slice z.a z.l.length z.c), (24, .int .i64 k), (25, .int .i64 z.l.length)])
      (fun z w' => (z.l.length ≤ k ∧ z.l = (bitsN k n).take z.l.length) ∧ ∃ L, Vec T_bool 1 z.a z.l.length z.c (z.l.map Value.bool) L ∧ St w [xr, rb] (rrH xr rb ⟨t, true⟩ ++ L) w') (fun z => k - z.l.length) ⟨[], none, 0⟩
      ⟨rfl, rfl, rfl, rfl, trivial⟩ ⟨⟨Nat.zero_le _, rfl⟩, [], Vec.nil, hS⟩ ?_
    clear hS hS'
    rintro ⟨l, a, c⟩ w4 ⟨⟨hl, he⟩, L, hv, hS⟩
    simp only at hl he hv hS ⊢
    by_cases hlk : l.length < k
    · have hkb : l.length < (bitsN k n).length := by omega
      have hbg := bitsN_get k n l.length hkb
      have hsn := List.take_succ_eq_append_getElem hkb
      rw [hbg, ← he] at hsn
      have hs2 := shr_u n l.length (by omega)
      have hdl : n / 2 ^ l.length ≤ n := Nat.div_le_self _ _
      have had := and_one (n / 2 ^ l.length) (by omega)
      generalize n / 2 ^ l.length = q at hsn hs2 hdl had
      have hbe : decide (((q % 2 : Nat) : Int) = 1) = decide (q % 2 = 1) := by rw [decide_eq_decide]; omega
      (repeat (refine jt ⟨?_⟩; refine hS.st rfl rfl ?_; intro _ hS)); refine jt ⟨?_⟩
      (repeat (refine jt ⟨?_⟩; refine hS.st rfl rfl ?_; intro _ hS)); refine jt ⟨?_⟩
      refine hS.al ?_
      intro q2 w5 _ hS
      rw [hs2, had, hbe] at hS
      (repeat (refine jt ⟨?_⟩; refine hS.st rfl rfl ?_; intro _ hS)); refine jt ⟨?_⟩
      refine St.app (sz := 1) (m := 1) tblOk rfl rfl rfl rfl hS hv (news := [Value.bool (decide (q % 2 = 1))]) rfl (by have := hS.arr (b := q2) (T' := []) (by simp); exact this) rfl (by show (_ + _) * 1 ≤ _; omega) (by omega) ?_
      intro a2 c2 L2 w9 hv hS
      have e9 : l.map Value.bool ++ [Value.bool (decide (q % 2 = 1))] = (l ++ [decide (q % 2 = 1)]).map Value.bool := by simp
      have e8 : l.length + 1 = (l ++ [decide (q % 2 = 1)]).length := by simp
      rw [e9, e8] at hv
      rw [e8]
      (repeat (refine jt ⟨?_⟩; refine hS.st rfl rfl ?_; intro _ hS)); refine jt ⟨?_⟩
      exact ⟨⟨l ++ [decide (q % 2 = 1)], a2, c2⟩, ⟨rfl, rfl, rfl, by show _ = Value.int .i64 _; congr 1; simp, trivial⟩, ⟨⟨by simp only [List.length_append, List.length_singleton]; omega, by simp only; rw [← e8]; exact hsn.symm⟩, L2, hv, hS.sub (List.sublist_cons_self _ _)⟩, by simp only [List.length_append, List.length_singleton]; omega⟩
    · have hle : l.length = k := by omega
      have hlb : l = bitsN k n := by rw [he]; exact List.take_of_length_le (by omega)
      (repeat (refine jt ⟨?_⟩; refine hS.st rfl rfl ?_; intro _ hS)); refine jt ⟨?_⟩
      refine ⟨a, c, L, by rw [hle], ?_, hS⟩
      rw [← hlb, ← hle]
      exact hv
  | false =>
    rw [Bool.false_or]
    (repeat (refine jt ⟨?_⟩; refine hS.st rfl rfl ?_; intro _ hS)); refine jt ⟨?_⟩
    rw [hsh] at hS
    by_cases h2 : 2 ^ k ≤ n
    · have hnz : ¬ ((n / 2 ^ k : Nat) : Int) = 0 := fun h => hz.1 h h2
      rw [decide_eq_true h2]
      rw [decide_eq_false hnz, Bool.not_false] at hS
      refine SemW.loop (fun z : MKI => [(5, .int .u64 n), (6, .slice z.a z.l.length z.c), (24, .int .i64 k), (25, .int .i64 z.l.length)])
        (fun z w' => (z.l.length ≤ k ∧ z.l = (bitsN k n).take z.l.length) ∧ ∃ L, Vec T_bool 1 z.a z.l.length z.c (z.l.map Value.bool) L ∧ St w [xr, rb] (rrH xr rb ⟨t, true⟩ ++ L) w') (fun z => k - z.l.length) ⟨[], none, 0⟩
        ⟨rfl, rfl, rfl, rfl, trivial⟩ ⟨⟨Nat.zero_le _, rfl⟩, [], Vec.nil, hS⟩ ?_
      clear hS hS'
      rintro ⟨l, a, c⟩ w4 ⟨⟨hl, he⟩, L, hv, hS⟩
      simp only at hl he hv hS ⊢
      by_cases hlk : l.length < k
      · have hkb : l.length < (bitsN k n).length := by omega
        have hbg := bitsN_get k n l.length hkb
        have hsn := List.take_succ_eq_append_getElem hkb
        rw [hbg, ← he] at hsn
        have hs2 := shr_u n l.length (by omega)
        have hdl : n / 2 ^ l.length ≤ n := Nat.div_le_self _ _
        have had := and_one (n / 2 ^ l.length) (by omega)
        generalize n / 2 ^ l.length = q at hsn hs2 hdl had
        have hbe : decide (((q % 2 : Nat) : Int) = 1) = decide (q % 2 = 1) := by rw [decide_eq_decide]; omega
        (repeat (refine jt ⟨?_⟩; refine hS.st rfl rfl ?_; intro _ hS)); refine jt ⟨?_⟩
        (repeat (refine jt ⟨?_⟩; refine hS.st rfl rfl ?_; intro _ hS)); refine jt ⟨?_⟩
        refine hS.al ?_
        intro q2 w5 _ hS
        rw [hs2, had, hbe] at hS
        (repeat (refine jt ⟨?_⟩; refine hS.st rfl rfl ?_; intro _ hS)); refine jt ⟨?_⟩
        refine St.app (sz := 1) (m := 1) tblOk rfl rfl rfl rfl hS hv (news := [Value.bool (decide (q % 2 = 1))]) rfl (by have := hS.arr (b := q2) (T' := []) (by simp); exact this) rfl (by show (_ + _) * 1 ≤ _; omega) (by omega) ?_
        intro a2 c2 L2 w9 hv hS
        have e9 : l.map Value.bool ++ [Value.bool (decide (q % 2 = 1))] = (l ++ [decide (q % 2 = 1)]).map Value.bool := by simp
        have e8 : l.length + 1 = (l ++ [decide (q % 2 = 1)]).length := by simp
        rw [e9, e8] at hv
        rw [e8]
        (repeat (refine jt ⟨?_⟩; refine hS.st rfl rfl ?_; intro _ hS)); refine jt ⟨?_⟩
        exact ⟨⟨l ++ [decide (q % 2 = 1)], a2, c2⟩, ⟨rfl, rfl, rfl, by show _ = Value.int .i64 _; congr 1; simp, trivial⟩, ⟨⟨by simp only [List.length_append, List.length_singleton]; omega, by simp only; rw [← e8]; exact hsn.symm⟩, L2, hv, hS.sub (List.sublist_cons_self _ _)⟩, by simp only [List.length_append, List.length_singleton]; omega⟩
      · have hle : l.length = k := by omega
        have hlb : l = bitsN k n := by rw [he]; exact List.take_of_length_le (by omega)
        (repeat (refine jt ⟨?_⟩; refine hS.st rfl rfl ?_; intro _ hS)); refine jt ⟨?_⟩
        refine ⟨a, c, L, by rw [hle], ?_, hS⟩
        rw [← hlb, ← hle]
        exact hv
    · have hnz : ((n / 2 ^ k : Nat) : Int) = 0 := hz.2 h2
      rw [decide_eq_false h2]
      rw [decide_eq_true hnz, Bool.not_true] at hS
      refine SemW.loop (fun z : MKI => [(5, .int .u64 n), (6, .slice z.a z.l.length z.c), (24, .int .i64 k), (25, .int .i64 z.l.length)])
        (fun z w' => (z.l.length ≤ k ∧ z.l = (bitsN k n).take z.l.length) ∧ ∃ L, Vec T_bool 1 z.a z.l.length z.c (z.l.map Value.bool) L ∧ St w [xr, rb] (rrH xr rb ⟨t, false⟩ ++ L) w') (fun z => k - z.l.length) ⟨[], none, 0⟩
        ⟨rfl, rfl, rfl, rfl, trivial⟩ ⟨⟨Nat.zero_le _, rfl⟩, [], Vec.nil, hS⟩ ?_
      clear hS hS'
      rintro ⟨l, a, c⟩ w4 ⟨⟨hl, he⟩, L, hv, hS⟩
      simp only at hl he hv hS ⊢
      by_cases hlk : l.length < k
      · have hkb : l.length < (bitsN k n).length := by omega
        have hbg := bitsN_get k n l.length hkb
        have hsn := List.take_succ_eq_append_getElem hkb
        rw [hbg, ← he] at hsn
        have hs2 := shr_u n l.length (by omega)
        have hdl : n / 2 ^ l.length ≤ n := Nat.div_le_self _ _
        have had := and_one (n / 2 ^ l.length) (by omega)
        generalize n / 2 ^ l.length = q at hsn hs2 hdl had
        have hbe : decide (((q % 2 : Nat) : Int) = 1) = decide (q % 2 = 1) := by rw [decide_eq_decide]; omega
        (repeat (refine jt ⟨?_⟩; refine hS.st rfl rfl ?_; intro _ hS)); refine jt ⟨?_⟩
        (repeat (refine jt ⟨?_⟩; refine hS.st rfl rfl ?_; intro _ hS)); refine jt ⟨?_⟩
        refine hS.al ?_
        intro q2 w5 _ hS
        rw [hs2, had, hbe] at hS
        (repeat (refine jt ⟨?_⟩; refine hS.st rfl rfl ?_; intro _ hS)); refine jt ⟨?_⟩
        refine St.app (sz := 1) (m := 1) tblOk rfl rfl rfl rfl hS hv (news := [Value.bool (decide (q % 2 = 1))]) rfl (by have := hS.arr (b := q2) (T' := []) (by simp); exact this) rfl (by show (_ + _) * 1 ≤ _; omega) (by omega) ?_
        intro a2 c2 L2 w9 hv hS
        have e9 : l.map Value.bool ++ [Value.bool (decide (q % 2 = 1))] = (l ++ [decide (q % 2 = 1)]).map Value.bool := by simp
        have e8 : l.length + 1 = (l ++ [decide (q % 2 = 1)]).length := by simp
        rw [e9, e8] at hv
        rw [e8]
        (repeat (refine jt ⟨?_⟩; refine hS.st rfl rfl ?_; intro _ hS)); refine jt ⟨?_⟩
        exact ⟨⟨l ++ [decide (q % 2 = 1)], a2, c2⟩, ⟨rfl, rfl, rfl, by show _ = Value.int .i64 _; congr 1; simp, trivial⟩, ⟨⟨by simp only [List.length_append, List.length_singleton]; omega, by simp only; rw [← e8]; exact hsn.symm⟩, L2, hv, hS.sub (List.sublist_cons_self _ _)⟩, by simp only [List.length_append, List.length_singleton]; omega⟩
      · have hle : l.length = k := by omega
        have hlb : l = bitsN k n := by rw [he]; exact List.take_of_length_le (by omega)
        (repeat (refine jt ⟨?_⟩; refine hS.st rfl rfl ?_; intro _ hS)); refine jt ⟨?_⟩
        refine ⟨a, c, L, by rw [hle], ?_, hS⟩
        rw [← hlb, ← hle]
        exact hv
end Go.Proofs.YtinkmidjbdnibaaGreatDoor
namespace Go.Eng
open Go
inductive VecO (e : TypeId) : Option Addr → Nat → Nat → List Value → Heap → Prop where
  | nil : VecO e none 0 0 [] []
  | row (g : Nat) (pre xs l post : List Value) (n cap : Nat) (fz : Nat × Nat) (hf : fz.2 ≤ pre.length ∨ (pre ++ (xs ++ (l ++ post))).length ≤ fz.1) (hx : xs.length = n) (hl : xs.length + l.length = cap) : VecO e (some ⟨g, pre.length, none⟩) n cap xs [(g, .cells ⟨pre ++ (xs ++ (l ++ post))⟩ e fz)]
theorem VecO.of {e : TypeId} {a : Option Addr} {n cap : Nat} {xs : List Value} {L : Heap} (h : Vec e 1 a n cap xs L) : VecO e a n cap xs L := by
  cases h with
  | nil => exact .nil
  | row g n cap xs l hx hl hn =>
    have := VecO.row (e := e) g [] xs l [] n cap (0, 0) (.inl (Nat.zero_le _)) (by omega) (by omega)
    simpa using this
theorem VecO.len {e : TypeId} {a : Option Addr} {n cap : Nat} {xs : List Value} {L : Heap} (h : VecO e a n cap xs L) : xs.length = n ∧ n ≤ cap := by
  cases h with
  | nil => exact ⟨rfl, Nat.le_refl _⟩
  | row g pre xs l post n cap fz hf hx hl => exact ⟨hx, by omega⟩
theorem VecO.pos {e : TypeId} {a : Option Addr} {n cap : Nat} {xs : List Value} {L : Heap} (h : VecO e a n cap xs L) (hn : 0 < n) : ∃ b off, a = some ⟨b, off, none⟩ := by
  cases h with
  | nil => omega
  | row g pre xs l post n cap fz hf hx hl => exact ⟨g, _, rfl⟩
theorem VecO.arr {e : TypeId} {a : Option Addr} {n cap : Nat} {xs : List Value} {L : Heap} (h : VecO e a n cap xs L) {w0 w : World} {T T' : List Nat} {H : Heap} {F : Heap → Heap} (hS : St w0 T H w) [hc : Chunk H L F]
    (hT : ∀ b ∈ keys L, b ∉ T') : Arr w T' a xs := by
  cases h with
  | nil => exact Arr.nil _ _ _
  | row g pre xs l post n cap fz hf hx hl =>
    intro j x hj
    have hm := hS.part (L := [(g, Obj.cells ⟨pre ++ (xs ++ (l ++ post))⟩ e fz)]).own _ (List.mem_singleton.2 rfl)
    refine ⟨g, pre.length, rfl, hT g (by simp [keys]), ?_⟩
    have hlt : j < xs.length := (List.getElem?_eq_some_iff.1 hj).1
    simp only [World.cell?, hm]
    simp only [Option.isSome_none, Bool.false_eq_true, if_false]
    rw [show (Array.mk (pre ++ (xs ++ (l ++ post))))[pre.length + j]? = (pre ++ (xs ++ (l ++ post)))[pre.length + j]? by simp, List.getElem?_append_right (by omega), show pre.length + j - pre.length = j by omega, List.getElem?_append_left hlt]
    exact hj
theorem VecO.drop {e : TypeId} {b off n cap k : Nat} {xs : List Value} {L : Heap} (h : VecO e (some ⟨b, off, none⟩) n cap xs L) (hk : k ≤ n) : VecO e (subA b off k cap 1) (n - k) (cap - k) (xs.drop k) L := by
  cases h with
  | row g pre xs l post n cap fz hf hx hl =>
    unfold subA
    split
    · rename_i hc
      have h1 : l = [] := List.eq_nil_of_length_eq_zero (by omega)
      have h2 : xs.drop k = [] := List.drop_eq_nil_iff.2 (by omega)
      have := VecO.row (e := e) b pre [] [] (xs ++ (l ++ post)) 0 0 fz hf rfl rfl
      rw [h2, show n - k = 0 by omega, show cap - k = 0 by omega]
      simpa using this
    · have e2 : pre ++ xs.take k ++ (xs.drop k ++ (l ++ post)) = pre ++ (xs ++ (l ++ post)) := by
        rw [List.append_assoc, ← List.append_assoc (xs.take k), List.take_append_drop]
      have := VecO.row (e := e) b (pre ++ xs.take k) (xs.drop k) l post (n - k) (cap - k) fz (by
        rw [e2]; rcases hf with hf | hf
        · exact .inl (by rw [List.length_append]; omega)
        · exact .inr hf) (by simp; omega) (by simp; omega)
      have e1 : (pre ++ xs.take k).length = pre.length + k * 1 := by simp; omega
      rw [e1, e2] at this
      exact this
section
variable {P : Program} {T0 : Tbl}
end
end Go.Eng
namespace Go.Proofs.YtinkmidjbdnibaaGreatDoor
open Go Go.Eng Go.Proofs
theorem tmodN (a b : Nat) : ((a : Int).tmod (b : Int)) = ((a % b : Nat) : Int) := rfl
theorem tdivN (a b : Nat) : ((a : Int).tdiv (b : Int)) = ((a / b : Nat) : Int) := rfl
theorem numB_len10' (n : Nat) (h : n < 18446744073709551616) : (numB n).length ≤ 10 := numB_len10 n (by omega)
set_option maxHeartbeats 1000000 in
theorem Fold_spec {w : World} (z : Int) (hz : i64ok z) : Cl Tryz.prog f_tarmacref01_Fold [.int .i64 z] w fun v w' => v = u64V (zig z) ∧ St w [] [] w' := by
  have hS := St.start w
  unfold i64ok at hz
  refine en_tarmacref01_Fold rfl ?_
  unfold u64V zig
  by_cases h0 : 0 ≤ z
  · rw [if_pos h0]
    refine jq ⟨?_⟩
    exact ⟨congrArg (Value.int .u64) (by omega), hS⟩
  · rw [if_neg h0]
    refine jq ⟨?_⟩
    exact ⟨congrArg (Value.int .u64) (by omega), hS⟩
set_option maxHeartbeats 1000000 in
theorem NumE_spec {w : World} (n0 : Nat) (hn0 : n0 < 18446744073709551616) : Cl Tryz.prog f_tarmacref01_Num [u64V n0] w fun v w' => v = Str (numB n0) ∧ St w [] [] w' := by
  have hS := St.start w
  unfold u64V
  refine en_tarmacref01_Num rfl ?_
  have hlen0 := numB_len10' n0 hn0
  refine jq ⟨?_⟩
  refine SemW.loop (fun x : Nat × Bytes × Option Addr × Nat => [(0, .int .u64 x.1), (3, .slice x.2.2.1 x.2.1.length x.2.2.2)])
    (fun x w' => x.1 ≤ n0 ∧ numB n0 = x.2.1 ++ numB x.1 ∧ ∃ L, Vec T_uint8 1 x.2.2.1 x.2.1.length x.2.2.2 (x.2.1.map byteV) L ∧ St w [] L w') (fun x => x.1) (n0, [], none, 0)
    ⟨rfl, rfl, trivial⟩ ⟨Nat.le_refl _, rfl, [], Vec.nil, hS⟩ ?_
  rintro ⟨m, pre, a, c⟩ w1 ⟨hm, hpre, L, hv, hS⟩
  simp only at hm hpre hv hS ⊢
  have hpl : pre.length + (numB m).length ≤ 10 := by rw [← List.length_append, ← hpre]; exact hlen0
  have hp1 := numB_pos m
  by_cases h : m < 128
  · rw [numB_lt h] at hpre
    have hb : IntKind.u8.wrap (m : Int) = (((UInt8.ofNat m).toNat : Nat) : Int) := u8wrap m
    have hbm : (((UInt8.ofNat m).toNat : Nat) : Int) = (m : Int) := by rw [← hb, wrapU .u8 rfl]; congr 1; exact Nat.mod_eq_of_lt (by show m < 256; omega)
    refine jq ⟨?_⟩
    refine hS.al ?_
    intro r w2 _ hS
    refine jq ⟨?_⟩
    refine St.app (sz := 1) (m := 1) tblOk rfl rfl rfl rfl hS hv (news := [UInt8.ofNat m].map byteV) rfl (by
      have := hS.arr (b := r) (T' := []) (by simp)
      have e : ([.int .u8 (m : Int)] : List Value) = [UInt8.ofNat m].map byteV := by simp only [List.map_cons, List.map_nil, byteV, hbm]
      rw [← e]; exact this) rfl (by show (_ + _) * 1 ≤ _; omega) (by omega) ?_
    intro a' c' L' w3 hv' hS
    rw [← List.map_append, ← hpre] at hv'
    have hl : pre.length + 1 = (numB n0).length := by rw [hpre]; simp
    rw [hl] at hv' ⊢
    refine jq ⟨?_⟩
    refine toStr (T := []) tblOk rfl rfl rfl rfl rfl rfl (bs := numB n0) rfl (fun w' hw' => by subst hw'; exact hv'.arr hS (by simp)) ?_
    refine jq ⟨?_⟩
    exact ⟨rfl, hS.nil⟩
  · rw [numB_ge h] at hpre
    have e1 : ((m : Int).tmod 128) = ((m % 128 : Nat) : Int) := tmodN m 128
    have e2 : ((m : Int).tdiv 128) = ((m / 128 : Nat) : Int) := tdivN m 128
    have hbm : (((UInt8.ofNat (m % 128 + 128)).toNat : Nat) : Int) = ((m % 128 : Nat) : Int) + 128 := by
      have : (UInt8.ofNat (m % 128 + 128)).toNat = m % 128 + 128 := by simp; omega
      rw [this]; omega
    refine jq ⟨?_⟩
    rw [e1]
    refine jq ⟨?_⟩
    refine hS.al ?_
    intro r w2 _ hS
    refine jq ⟨?_⟩
    refine St.app (sz := 1) (m := 1) tblOk rfl rfl rfl rfl hS hv (news := [UInt8.ofNat (m % 128 + 128)].map byteV) rfl (by
      have := hS.arr (b := r) (T' := []) (by simp)
      have e : ([.int .u8 (((m % 128 : Nat) : Int) + 128)] : List Value) = [UInt8.ofNat (m % 128 + 128)].map byteV := by simp only [List.map_cons, List.map_nil, byteV, hbm]
      rw [← e]; exact this) rfl (by show (_ + _) * 1 ≤ _; omega) (by omega) ?_
    intro a' c' L' w3 hv' hS
    have hS := hS.sub (H' := L') (List.sublist_cons_self _ _)
    rw [← List.map_append] at hv'
    have hl : pre.length + 1 = (pre ++ [UInt8.ofNat (m % 128 + 128)]).length := by simp
    rw [hl] at hv' ⊢
    refine jq ⟨?_⟩
    rw [e2]
    refine jq ⟨?_⟩
    refine ⟨(m / 128, pre ++ [UInt8.ofNat (m % 128 + 128)], a', c'), ⟨rfl, rfl, trivial⟩, ⟨by simp only; omega, by simp only [List.append_assoc]; exact hpre, L', hv', hS⟩, by simp only; omega⟩
theorem IntE_spec {w : World} (z : Int) (hz : i64ok z) : Cl Tryz.prog f_tarmacref01_Int [.int .i64 z] w fun v w' => v = Str (intB z) ∧ St w [] [] w' := by
  have hS := St.start w
  have hzl : zig z < 18446744073709551616 := by
    unfold i64ok at hz; unfold zig; split <;> omega
  refine en_tarmacref01_Int rfl ?_
  refine jq ⟨?_⟩
  refine Cl.mono (Fold_spec z hz) ?_
  rintro _ w1 ⟨rfl, hS'⟩
  have hS := hS.call0 hS'
  refine jq ⟨?_⟩
  refine Cl.mono (NumE_spec (zig z) hzl) ?_
  rintro _ w2 ⟨rfl, hS'⟩
  have hS := hS.call0 hS'
  refine jq ⟨?_⟩
  exact ⟨rfl, hS⟩
structure LI where
  k : Nat
  l : List Int
  s : RB
theorem wInts_step {n : Nat} {l : List Int} {s : RB} {X : List Int × RB} (hl : l.length < n) (hx : (l ++ (wInts (n - l.length) s).1, (wInts (n - l.length) s).2) = X) :
    ((l ++ [(rbInt s).1]) ++ (wInts (n - (l ++ [(rbInt s).1]).length) (rbInt s).2).1, (wInts (n - (l ++ [(rbInt s).1]).length) (rbInt s).2).2) = X := by
  rw [show n - l.length = (n - (l ++ [(rbInt s).1]).length) + 1 by simp; omega] at hx
  rw [← hx]
  simp [wInts]
theorem set_row (l : List Int) (x : Int) (n : Nat) (h : l.length < n) : (l.map intV ++ List.replicate (n - l.length) (intV 0)).set l.length (intV x) = (l ++ [x]).map intV ++ List.replicate (n - (l ++ [x]).length) (intV 0) := by
  rw [List.set_append_right _ _ (by simp)]
  rw [show n - l.length = (n - (l ++ [x]).length) + 1 by simp; omega, List.replicate_succ]
  simp
theorem rbInt_t (s : RB) : (rbInt s).2.t.length ≤ s.t.length := intO_len s.t
theorem rbNum_t (s : RB) : (rbNum s).2.t.length ≤ s.t.length := numO_len s.t
theorem lst6' {l : List Int} (h : l.length = 6) : ∃ a b c d e f, l = [a, b, c, d, e, f] := ⟨_, _, _, _, _, _, lst6 0 h⟩
theorem bits4 (n : Nat) : bitsN 4 n = [decide (n % 2 = 1), decide (n / 2 % 2 = 1), decide (n / 4 % 2 = 1), decide (n / 8 % 2 = 1)] := by
  simp only [bitsN, Nat.div_div_eq_div_mul]
theorem dmod2 (a : Nat) : decide (((a : Nat) : Int).tmod 2 = 1) = decide (a % 2 = 1) := by
  have : ((a : Int)).tmod 2 = ((a % 2 : Nat) : Int) := tmodN a 2
  rw [this, decide_eq_decide]
  omega
theorem bits4' (n : Nat) : bitsN 4 n = [decide (((n : Nat) : Int).tmod 2 = 1), decide (((n / 2 : Nat) : Int).tmod 2 = 1), decide (((n / 4 : Nat) : Int).tmod 2 = 1), decide (((n / 8 : Nat) : Int).tmod 2 = 1)] := by
  rw [dmod2, dmod2, dmod2, dmod2]; exact bits4 n
def bitW (b : Bool) : Nat := if b then 1 else 0
end Go.Proofs.YtinkmidjbdnibaaGreatDoor
