/- MADE BY PROGRAM (gen.py) out of this seat's translation: the types' table with its proof, the functions' and types' numbers under names, each function's way in. No statement of the seat is here. -/
import Derived.Test.YtlghahalejgkfaaDoorProg
import Derived.Test.YtlghahalejgkfaaDoorVec
namespace Go.Proofs.YtlghahalejgkfaaDoor
open Go Go.Eng Go.Proofs

def tbl : Tbl := [
  (2, ⟨.int .i64, 1, 8, .int .i64 0⟩),
  (3, ⟨.int .i64, 1, 8, .int .i64 0⟩),
  (4, ⟨.bool, 1, 1, .bool false⟩),
  (5, ⟨.int .u8, 1, 1, .int .u8 0⟩),
  (9, ⟨.str, 1, 16, .string ⟨⟨[]⟩⟩⟩),
  (21, ⟨.int .i32, 1, 4, .int .i32 0⟩),
  (22, ⟨.slice 49 2, 1, 24, .slice none 0 0⟩),
  (23, ⟨.slice 45 8, 1, 24, .slice none 0 0⟩),
  (24, ⟨.slice 57 13, 1, 24, .slice none 0 0⟩),
  (26, ⟨.struct [(0, 1), (1, 1), (2, 1)], 3, 72, .agg ⟨[.slice none 0 0, .slice none 0 0, .slice none 0 0]⟩⟩),
  (28, ⟨.slice 33 3, 1, 24, .slice none 0 0⟩),
  (29, ⟨.int .i64, 1, 8, .int .i64 0⟩),
  (33, ⟨.struct [(0, 1), (1, 1), (2, 1)], 3, 40, .agg ⟨[.string ⟨⟨[]⟩⟩, .bool false, .string ⟨⟨[]⟩⟩]⟩⟩),
  (43, ⟨.arr 4 3 1, 4, 32, .agg ⟨[.int .i64 0, .int .i64 0, .int .i64 0, .int .i64 0]⟩⟩),
  (45, ⟨.struct [(0, 1), (1, 1), (2, 1), (3, 1), (4, 4)], 8, 64, .agg ⟨[.int .i64 0, .int .i64 0, .int .i64 0, .int .i64 0, .int .i64 0, .int .i64 0, .int .i64 0, .int .i64 0]⟩⟩),
  (47, ⟨.slice 85 5, 1, 24, .slice none 0 0⟩),
  (49, ⟨.struct [(0, 1), (1, 1)], 2, 32, .agg ⟨[.int .i64 0, .slice none 0 0]⟩⟩),
  (53, ⟨.struct [(0, 1), (1, 1), (2, 1)], 3, 16, .agg ⟨[.int .i64 0, .bool false, .bool false]⟩⟩),
  (55, ⟨.struct [(0, 1), (1, 1)], 2, 16, .agg ⟨[.int .i64 0, .int .u8 0]⟩⟩),
  (57, ⟨.struct [(0, 1), (1, 1), (2, 3), (5, 1), (6, 1), (7, 1), (8, 1), (9, 1), (10, 1), (11, 2)], 13, 88, .agg ⟨[.int .i64 0, .int .i64 0, .int .i64 0, .bool false, .bool false, .bool false, .bool false, .int .i64 0, .int .i64 0, .int .i64 0, .int .i64 0, .int .i64 0, .int .u8 0]⟩⟩),
  (61, ⟨.slice 69 3, 1, 24, .slice none 0 0⟩),
  (69, ⟨.struct [(0, 1), (1, 1), (2, 1)], 3, 32, .agg ⟨[.int .i64 0, .int .i64 0, .string ⟨⟨[]⟩⟩]⟩⟩),
  (72, ⟨.fn, 1, 8, .nilFunc⟩),
  (74, ⟨.fn, 1, 8, .nilFunc⟩),
  (76, ⟨.fn, 1, 8, .nilFunc⟩),
  (78, ⟨.ptr 109, 1, 8, .pointer none⟩),
  (81, ⟨.struct [(0, 1)], 1, 8, .agg ⟨[.pointer none]⟩⟩),
  (83, ⟨.int .u64, 1, 8, .int .u64 0⟩),
  (85, ⟨.struct [(0, 1), (1, 1), (2, 1), (3, 1), (4, 1)], 5, 48, .agg ⟨[.int .i64 0, .int .i64 0, .int .i64 0, .bool false, .string ⟨⟨[]⟩⟩]⟩⟩),
  (89, ⟨.slice 3 1, 1, 24, .slice none 0 0⟩),
  (90, ⟨.ptr 96, 1, 8, .pointer none⟩),
  (91, ⟨.ptr 94, 1, 8, .pointer none⟩),
  (92, ⟨.slice 5 1, 1, 24, .slice none 0 0⟩),
  (94, ⟨.struct [(0, 1), (1, 1)], 2, 32, .agg ⟨[.pointer none, .slice none 0 0]⟩⟩),
  (96, ⟨.struct [(0, 2)], 2, 32, .agg ⟨[.pointer none, .slice none 0 0]⟩⟩),
  (99, ⟨.slice 9 1, 1, 24, .slice none 0 0⟩),
  (104, ⟨.arr 8 5 1, 8, 8, .agg ⟨[.int .u8 0, .int .u8 0, .int .u8 0, .int .u8 0, .int .u8 0, .int .u8 0, .int .u8 0, .int .u8 0]⟩⟩),
  (107, ⟨.struct [(0, 1)], 1, 8, .agg ⟨[.int .i64 0]⟩⟩),
  (109, ⟨.struct [(0, 1), (1, 1)], 2, 32, .agg ⟨[.int .i64 0, .slice none 0 0]⟩⟩),
  (110, ⟨.slice 83 1, 1, 24, .slice none 0 0⟩),
  (111, ⟨.int .u64, 1, 8, .int .u64 0⟩),
  (113, ⟨.slice 4 1, 1, 24, .slice none 0 0⟩),
  (120, ⟨.ptr 5, 1, 8, .pointer none⟩),
  (129, ⟨.arr 24 5 1, 24, 24, .agg ⟨[.int .u8 0, .int .u8 0, .int .u8 0, .int .u8 0, .int .u8 0, .int .u8 0, .int .u8 0, .int .u8 0, .int .u8 0, .int .u8 0, .int .u8 0, .int .u8 0, .int .u8 0, .int .u8 0, .int .u8 0, .int .u8 0, .int .u8 0, .int .u8 0, .int .u8 0, .int .u8 0, .int .u8 0, .int .u8 0, .int .u8 0, .int .u8 0]⟩⟩),
  (138, ⟨.arr 20 83 1, 20, 160, .agg ⟨[.int .u64 0, .int .u64 0, .int .u64 0, .int .u64 0, .int .u64 0, .int .u64 0, .int .u64 0, .int .u64 0, .int .u64 0, .int .u64 0, .int .u64 0, .int .u64 0, .int .u64 0, .int .u64 0, .int .u64 0, .int .u64 0, .int .u64 0, .int .u64 0, .int .u64 0, .int .u64 0]⟩⟩),
  (139, ⟨.int .u32, 1, 4, .int .u32 0⟩),
  (140, ⟨.arr 65 5 1, 65, 65, .agg ⟨[.int .u8 0, .int .u8 0, .int .u8 0, .int .u8 0, .int .u8 0, .int .u8 0, .int .u8 0, .int .u8 0, .int .u8 0, .int .u8 0, .int .u8 0, .int .u8 0, .int .u8 0, .int .u8 0, .int .u8 0, .int .u8 0, .int .u8 0, .int .u8 0, .int .u8 0, .int .u8 0, .int .u8 0, .int .u8 0, .int .u8 0, .int .u8 0, .int .u8 0, .int .u8 0, .int .u8 0, .int .u8 0, .int .u8 0, .int .u8 0, .int .u8 0, .int .u8 0, .int .u8 0, .int .u8 0, .int .u8 0, .int .u8 0, .int .u8 0, .int .u8 0, .int .u8 0, .int .u8 0, .int .u8 0, .int .u8 0, .int .u8 0, .int .u8 0, .int .u8 0, .int .u8 0, .int .u8 0, .int .u8 0, .int .u8 0, .int .u8 0, .int .u8 0, .int .u8 0, .int .u8 0, .int .u8 0, .int .u8 0, .int .u8 0, .int .u8 0, .int .u8 0, .int .u8 0, .int .u8 0, .int .u8 0, .int .u8 0, .int .u8 0, .int .u8 0, .int .u8 0]⟩⟩),
  (144, ⟨.arr 256 5 1, 256, 256, .agg ⟨[.int .u8 0, .int .u8 0, .int .u8 0, .int .u8 0, .int .u8 0, .int .u8 0, .int .u8 0, .int .u8 0, .int .u8 0, .int .u8 0, .int .u8 0, .int .u8 0, .int .u8 0, .int .u8 0, .int .u8 0, .int .u8 0, .int .u8 0, .int .u8 0, .int .u8 0, .int .u8 0, .int .u8 0, .int .u8 0, .int .u8 0, .int .u8 0, .int .u8 0, .int .u8 0, .int .u8 0, .int .u8 0, .int .u8 0, .int .u8 0, .int .u8 0, .int .u8 0, .int .u8 0, .int .u8 0, .int .u8 0, .int .u8 0, .int .u8 0, .int .u8 0, .int .u8 0, .int .u8 0, .int .u8 0, .int .u8 0, .int .u8 0, .int .u8 0, .int .u8 0, .int .u8 0, .int .u8 0, .int .u8 0, .int .u8 0, .int .u8 0, .int .u8 0, .int .u8 0, .int .u8 0, .int .u8 0, .int .u8 0, .int .u8 0, .int .u8 0, .int .u8 0, .int .u8 0, .int .u8 0, .int .u8 0, .int .u8 0, .int .u8 0, .int .u8 0, .int .u8 0, .int .u8 0, .int .u8 0, .int .u8 0, .int .u8 0, .int .u8 0, .int .u8 0, .int .u8 0, .int .u8 0, .int .u8 0, .int .u8 0, .int .u8 0, .int .u8 0, .int .u8 0, .int .u8 0, .int .u8 0, .int .u8 0, .int .u8 0, .int .u8 0, .int .u8 0, .int .u8 0, .int .u8 0, .int .u8 0, .int .u8 0, .int .u8 0, .int .u8 0, .int .u8 0, .int .u8 0, .int .u8 0, .int .u8 0, .int .u8 0, .int .u8 0, .int .u8 0, .int .u8 0, .int .u8 0, .int .u8 0, .int .u8 0, .int .u8 0, .int .u8 0, .int .u8 0, .int .u8 0, .int .u8 0, .int .u8 0, .int .u8 0, .int .u8 0, .int .u8 0, .int .u8 0, .int .u8 0, .int .u8 0, .int .u8 0, .int .u8 0, .int .u8 0, .int .u8 0, .int .u8 0, .int .u8 0, .int .u8 0, .int .u8 0, .int .u8 0, .int .u8 0, .int .u8 0, .int .u8 0, .int .u8 0, .int .u8 0, .int .u8 0, .int .u8 0, .int .u8 0, .int .u8 0, .int .u8 0, .int .u8 0, .int .u8 0, .int .u8 0, .int .u8 0, .int .u8 0, .int .u8 0, .int .u8 0, .int .u8 0, .int .u8 0, .int .u8 0, .int .u8 0, .int .u8 0, .int .u8 0, .int .u8 0, .int .u8 0, .int .u8 0, .int .u8 0, .int .u8 0, .int .u8 0, .int .u8 0, .int .u8 0, .int .u8 0, .int .u8 0, .int .u8 0, .int .u8 0, .int .u8 0, .int .u8 0, .int .u8 0, .int .u8 0, .int .u8 0, .int .u8 0, .int .u8 0, .int .u8 0, .int .u8 0, .int .u8 0, .int .u8 0, .int .u8 0, .int .u8 0, .int .u8 0, .int .u8 0, .int .u8 0, .int .u8 0, .int .u8 0, .int .u8 0, .int .u8 0, .int .u8 0, .int .u8 0, .int .u8 0, .int .u8 0, .int .u8 0, .int .u8 0, .int .u8 0, .int .u8 0, .int .u8 0, .int .u8 0, .int .u8 0, .int .u8 0, .int .u8 0, .int .u8 0, .int .u8 0, .int .u8 0, .int .u8 0, .int .u8 0, .int .u8 0, .int .u8 0, .int .u8 0, .int .u8 0, .int .u8 0, .int .u8 0, .int .u8 0, .int .u8 0, .int .u8 0, .int .u8 0, .int .u8 0, .int .u8 0, .int .u8 0, .int .u8 0, .int .u8 0, .int .u8 0, .int .u8 0, .int .u8 0, .int .u8 0, .int .u8 0, .int .u8 0, .int .u8 0, .int .u8 0, .int .u8 0, .int .u8 0, .int .u8 0, .int .u8 0, .int .u8 0, .int .u8 0, .int .u8 0, .int .u8 0, .int .u8 0, .int .u8 0, .int .u8 0, .int .u8 0, .int .u8 0, .int .u8 0, .int .u8 0, .int .u8 0, .int .u8 0, .int .u8 0, .int .u8 0, .int .u8 0, .int .u8 0, .int .u8 0, .int .u8 0, .int .u8 0, .int .u8 0, .int .u8 0, .int .u8 0, .int .u8 0, .int .u8 0, .int .u8 0, .int .u8 0, .int .u8 0, .int .u8 0, .int .u8 0, .int .u8 0, .int .u8 0, .int .u8 0, .int .u8 0]⟩⟩),
  (146, ⟨.struct [(0, 1), (1, 1)], 2, 2, .agg ⟨[.int .u8 0, .int .u8 0]⟩⟩),
  (147, ⟨.arr 16 146 2, 32, 32, .agg ⟨[.int .u8 0, .int .u8 0, .int .u8 0, .int .u8 0, .int .u8 0, .int .u8 0, .int .u8 0, .int .u8 0, .int .u8 0, .int .u8 0, .int .u8 0, .int .u8 0, .int .u8 0, .int .u8 0, .int .u8 0, .int .u8 0, .int .u8 0, .int .u8 0, .int .u8 0, .int .u8 0, .int .u8 0, .int .u8 0, .int .u8 0, .int .u8 0, .int .u8 0, .int .u8 0, .int .u8 0, .int .u8 0, .int .u8 0, .int .u8 0, .int .u8 0, .int .u8 0]⟩⟩),
  (151, ⟨.arr 32 5 1, 32, 32, .agg ⟨[.int .u8 0, .int .u8 0, .int .u8 0, .int .u8 0, .int .u8 0, .int .u8 0, .int .u8 0, .int .u8 0, .int .u8 0, .int .u8 0, .int .u8 0, .int .u8 0, .int .u8 0, .int .u8 0, .int .u8 0, .int .u8 0, .int .u8 0, .int .u8 0, .int .u8 0, .int .u8 0, .int .u8 0, .int .u8 0, .int .u8 0, .int .u8 0, .int .u8 0, .int .u8 0, .int .u8 0, .int .u8 0, .int .u8 0, .int .u8 0, .int .u8 0, .int .u8 0]⟩⟩),
  (152, ⟨.arr 64 5 1, 64, 64, .agg ⟨[.int .u8 0, .int .u8 0, .int .u8 0, .int .u8 0, .int .u8 0, .int .u8 0, .int .u8 0, .int .u8 0, .int .u8 0, .int .u8 0, .int .u8 0, .int .u8 0, .int .u8 0, .int .u8 0, .int .u8 0, .int .u8 0, .int .u8 0, .int .u8 0, .int .u8 0, .int .u8 0, .int .u8 0, .int .u8 0, .int .u8 0, .int .u8 0, .int .u8 0, .int .u8 0, .int .u8 0, .int .u8 0, .int .u8 0, .int .u8 0, .int .u8 0, .int .u8 0, .int .u8 0, .int .u8 0, .int .u8 0, .int .u8 0, .int .u8 0, .int .u8 0, .int .u8 0, .int .u8 0, .int .u8 0, .int .u8 0, .int .u8 0, .int .u8 0, .int .u8 0, .int .u8 0, .int .u8 0, .int .u8 0, .int .u8 0, .int .u8 0, .int .u8 0, .int .u8 0, .int .u8 0, .int .u8 0, .int .u8 0, .int .u8 0, .int .u8 0, .int .u8 0, .int .u8 0, .int .u8 0, .int .u8 0, .int .u8 0, .int .u8 0, .int .u8 0]⟩⟩)]
theorem tblOk : TOk Tryd.prog tbl :=
  .cons ⟨by kernel_rfl, Tryd.underlying2⟩ (
  .cons ⟨by kernel_rfl, Tryd.underlying3⟩ (
  .cons ⟨by kernel_rfl, Tryd.underlying4⟩ (
  .cons ⟨by kernel_rfl, Tryd.underlying5⟩ (
  .cons ⟨by kernel_rfl, Tryd.underlying9⟩ (
  .cons ⟨by kernel_rfl, Tryd.underlying21⟩ (
  .cons ⟨by kernel_rfl, ⟨Tryd.underlying22, by kernel_rfl⟩⟩ (
  .cons ⟨by kernel_rfl, ⟨Tryd.underlying23, by kernel_rfl⟩⟩ (
  .cons ⟨by kernel_rfl, ⟨Tryd.underlying24, by kernel_rfl⟩⟩ (
  .cons ⟨by kernel_rfl, ⟨_, Tryd.underlying26, by kernel_rfl⟩⟩ (
  .cons ⟨by kernel_rfl, ⟨Tryd.underlying28, by kernel_rfl⟩⟩ (
  .cons ⟨by kernel_rfl, Tryd.underlying29⟩ (
  .cons ⟨by kernel_rfl, ⟨_, Tryd.underlying33, by kernel_rfl⟩⟩ (
  .cons ⟨by kernel_rfl, ⟨Tryd.underlying43, by kernel_rfl⟩⟩ (
  .cons ⟨by kernel_rfl, ⟨_, Tryd.underlying45, by kernel_rfl⟩⟩ (
  .cons ⟨by kernel_rfl, ⟨Tryd.underlying47, by kernel_rfl⟩⟩ (
  .cons ⟨by kernel_rfl, ⟨_, Tryd.underlying49, by kernel_rfl⟩⟩ (
  .cons ⟨by kernel_rfl, ⟨_, Tryd.underlying53, by kernel_rfl⟩⟩ (
  .cons ⟨by kernel_rfl, ⟨_, Tryd.underlying55, by kernel_rfl⟩⟩ (
  .cons ⟨by kernel_rfl, ⟨_, Tryd.underlying57, by kernel_rfl⟩⟩ (
  .cons ⟨by kernel_rfl, ⟨Tryd.underlying61, by kernel_rfl⟩⟩ (
  .cons ⟨by kernel_rfl, ⟨_, Tryd.underlying69, by kernel_rfl⟩⟩ (
  .cons ⟨by kernel_rfl, ⟨_, _, _, Tryd.underlying72⟩⟩ (
  .cons ⟨by kernel_rfl, ⟨_, _, _, Tryd.underlying74⟩⟩ (
  .cons ⟨by kernel_rfl, ⟨_, _, _, Tryd.underlying76⟩⟩ (
  .cons ⟨by kernel_rfl, Tryd.underlying78⟩ (
  .cons ⟨by kernel_rfl, ⟨_, Tryd.underlying81, by kernel_rfl⟩⟩ (
  .cons ⟨by kernel_rfl, Tryd.underlying83⟩ (
  .cons ⟨by kernel_rfl, ⟨_, Tryd.underlying85, by kernel_rfl⟩⟩ (
  .cons ⟨by kernel_rfl, ⟨Tryd.underlying89, by kernel_rfl⟩⟩ (
  .cons ⟨by kernel_rfl, Tryd.underlying90⟩ (
  .cons ⟨by kernel_rfl, Tryd.underlying91⟩ (
  .cons ⟨by kernel_rfl, ⟨Tryd.underlying92, by kernel_rfl⟩⟩ (
  .cons ⟨by kernel_rfl, ⟨_, Tryd.underlying94, by kernel_rfl⟩⟩ (
  .cons ⟨by kernel_rfl, ⟨_, Tryd.underlying96, by kernel_rfl⟩⟩ (
  .cons ⟨by kernel_rfl, ⟨Tryd.underlying99, by kernel_rfl⟩⟩ (
  .cons ⟨by kernel_rfl, ⟨Tryd.underlying104, by kernel_rfl⟩⟩ (
  .cons ⟨by kernel_rfl, ⟨_, Tryd.underlying107, by kernel_rfl⟩⟩ (
  .cons ⟨by kernel_rfl, ⟨_, Tryd.underlying109, by kernel_rfl⟩⟩ (
  .cons ⟨by kernel_rfl, ⟨Tryd.underlying110, by kernel_rfl⟩⟩ (
  .cons ⟨by kernel_rfl, Tryd.underlying111⟩ (
  .cons ⟨by kernel_rfl, ⟨Tryd.underlying113, by kernel_rfl⟩⟩ (
  .cons ⟨by kernel_rfl, Tryd.underlying120⟩ (
  .cons ⟨by kernel_rfl, ⟨Tryd.underlying129, by kernel_rfl⟩⟩ (
  .cons ⟨by kernel_rfl, ⟨Tryd.underlying138, by kernel_rfl⟩⟩ (
  .cons ⟨by kernel_rfl, Tryd.underlying139⟩ (
  .cons ⟨by kernel_rfl, ⟨Tryd.underlying140, by kernel_rfl⟩⟩ (
  .cons ⟨by kernel_rfl, ⟨Tryd.underlying144, by kernel_rfl⟩⟩ (
  .cons ⟨by kernel_rfl, ⟨_, Tryd.underlying146, by kernel_rfl⟩⟩ (
  .cons ⟨by kernel_rfl, ⟨Tryd.underlying147, by kernel_rfl⟩⟩ (
  .cons ⟨by kernel_rfl, ⟨Tryd.underlying151, by kernel_rfl⟩⟩ (
  .cons ⟨by kernel_rfl, ⟨Tryd.underlying152, by kernel_rfl⟩⟩ (
  .nil))))))))))))))))))))))))))))))))))))))))))))))))))))
theorem mixed : Tryd.prog.follows .mixedOrders = true := by kernel_rfl
abbrev T_ : Nat := 0
abbrev T_func : Nat := 1
abbrev T_int64 : Nat := 2
abbrev T_int : Nat := 3
abbrev T_bool : Nat := 4
abbrev T_uint8 : Nat := 5
abbrev T_internal_abi_BoundsErrorCode : Nat := 6
abbrev T_struct_x_int64_y_int_signed_bool_code_abi_BoundsErrorCode : Nat := 7
abbrev T_runtime_boundsError : Nat := 8
abbrev T_string : Nat := 9
abbrev T_runtime_errorString : Nat := 10
abbrev T_runtime_plainError : Nat := 11
abbrev T_uintptr : Nat := 12
abbrev T_struct_msg_string_addr_uintptr : Nat := 13
abbrev T_runtime_errorAddressString : Nat := 14
abbrev T_Ptr_runtime_TypeAssertionError : Nat := 15
abbrev T_Ptr_runtime_PanicNilError : Nat := 16
abbrev T_Ptr_abi_Type : Nat := 17
abbrev T_struct_typ_Ptr_abi_Type : Nat := 18
abbrev T_internal_runtime_maps_unhashableTypeError : Nat := 19
abbrev T_interface : Nat := 20
abbrev T_int32 : Nat := 21
abbrev T_Sl_api_Equip : Nat := 22
abbrev T_Sl_api_Flight : Nat := 23
abbrev T_Sl_api_Pax : Nat := 24
abbrev T_struct_Equips_Sl_api_Equip_Flights_Sl_api_Flight_Paxs_Sl_api_Pax : Nat := 25
abbrev T_api_State : Nat := 26
abbrev T_func_bool : Nat := 27
abbrev T_Sl_api_Op : Nat := 28
abbrev T_api_Errno : Nat := 29
abbrev T_Sl_api_Op_api_Errno : Nat := 30
abbrev T_func_api_State_Sl_api_Op_api_Errno : Nat := 31
abbrev T_struct_Key_string_Dead_bool_Value_string : Nat := 32
abbrev T_api_Op : Nat := 33
abbrev T_func_string : Nat := 34
abbrev T_func_int_string : Nat := 35
abbrev T_func_api_State_int_bool : Nat := 36
abbrev T_func_api_State_api_State_Sl_api_Op_api_Errno : Nat := 37
abbrev T_func_Sl_api_Op_Sl_api_Op_bool : Nat := 38
abbrev T_func_Sl_api_Op_Sl_api_Op_Sl_api_Op : Nat := 39
abbrev T_func_api_State_api_State_bool : Nat := 40
abbrev T_func_string_int_string : Nat := 41
abbrev T_func_api_State_api_State_int_bool : Nat := 42
abbrev T_4_int : Nat := 43
abbrev T_struct_ID_int_Equip_int_Phase_int_Seq_int_Limits_4_int : Nat := 44
abbrev T_api_Flight : Nat := 45
abbrev T_func_api_State_bool : Nat := 46
abbrev T_Sl_api_Row : Nat := 47
abbrev T_struct_ID_int_Rows_Sl_api_Row : Nat := 48
abbrev T_api_Equip : Nat := 49
abbrev T_func_api_Equip_string : Nat := 50
abbrev T_func_api_Flight_string : Nat := 51
abbrev T_struct_Cabin_int_Fit_bool_Infant_bool : Nat := 52
abbrev T_api_Who : Nat := 53
abbrev T_struct_Number_int_Letter_uint8 : Nat := 54
abbrev T_api_Seat : Nat := 55
abbrev T_struct_ID_int_Flight_int_api_Who_Volunteer_bool_Standby_bool_Class_int_Status_int_Tick_int_Pass_int_Seat_api_Seat : Nat := 56
abbrev T_api_Pax : Nat := 57
abbrev T_func_api_Pax_string : Nat := 58
abbrev T_string_api_Errno : Nat := 59
abbrev T_func_api_Part_string_api_Errno : Nat := 60
abbrev T_Sl_api_Part : Nat := 61
abbrev T_func_string_Sl_api_Part : Nat := 62
abbrev T_func_Sl_api_Op_api_Op_Sl_api_Op : Nat := 63
abbrev T_func_Sl_api_Row_string : Nat := 64
abbrev T_api_Op_bool : Nat := 65
abbrev T_func_Sl_api_Op_string_api_Op_bool : Nat := 66
abbrev T_func_Sl_api_Part_string_api_Errno : Nat := 67
abbrev T_struct_Kind_int_Int_int_Text_string : Nat := 68
abbrev T_api_Part : Nat := 69
abbrev T_func_api_Seat_string : Nat := 70
abbrev T_func_Sl_api_Equip_func_api_Equip_int_bool : Nat := 71
abbrev T_func_api_Equip_int : Nat := 72
abbrev T_func_Sl_api_Flight_func_api_Flight_int_bool : Nat := 73
abbrev T_func_api_Flight_int : Nat := 74
abbrev T_func_Sl_api_Pax_func_api_Pax_int_bool : Nat := 75
abbrev T_func_api_Pax_int : Nat := 76
abbrev T_func_int_Sl_api_Part : Nat := 77
abbrev T_Ptr_pack_Writer : Nat := 78
abbrev T_func_Ptr_pack_Writer : Nat := 79
abbrev T_struct_Ptr_pack_Writer : Nat := 80
abbrev T_rows_writer : Nat := 81
abbrev T_func_uint64 : Nat := 82
abbrev T_uint64 : Nat := 83
abbrev T_struct_Number_int_Cabin_int_Zone_int_Exit_bool_Seats_string : Nat := 84
abbrev T_api_Row : Nat := 85
abbrev T_func_int : Nat := 86
abbrev T_Sl_int : Nat := 89
abbrev T_Ptr_order_builder : Nat := 90
abbrev T_Ptr_strings_Builder : Nat := 91
abbrev T_Sl_uint8 : Nat := 92
abbrev T_struct_addr_Ptr_strings_Builder_buf_Sl_uint8 : Nat := 93
abbrev T_strings_Builder : Nat := 94
abbrev T_struct_strings_Builder : Nat := 95
abbrev T_order_builder : Nat := 96
abbrev T_Sl_string : Nat := 99
abbrev T_func_uint64_string : Nat := 100
abbrev T_func_bool_uint64_uint64 : Nat := 101
abbrev T_func_string_string : Nat := 102
abbrev T_func_api_Part_bool : Nat := 103
abbrev T_8_uint8 : Nat := 104
abbrev T_func_int_int_int_bool : Nat := 105
abbrev T_struct_n_int : Nat := 106
abbrev T_pack_tally : Nat := 107
abbrev T_struct_pack_tally_out_Sl_uint8 : Nat := 108
abbrev T_pack_Writer : Nat := 109
abbrev T_Sl_uint64 : Nat := 110
abbrev T_uint : Nat := 111
abbrev T_func_uint8 : Nat := 112
abbrev T_Sl_bool : Nat := 113
abbrev T_interface_Error_string : Nat := 114
abbrev T_error : Nat := 115
abbrev T_func_uint8_error : Nat := 116
abbrev T_int_error : Nat := 117
abbrev T_func_string_int_error : Nat := 118
abbrev T_func_string_string_string_string : Nat := 119
abbrev T_Ptr_uint8 : Nat := 120
abbrev T_func_int_uint64 : Nat := 121
abbrev T_func_string_string_string_int_string : Nat := 122
abbrev T_func_int64_int_string : Nat := 123
abbrev T_unsafe_Pointer : Nat := 124
abbrev T_func_unsafe_Pointer_unsafe_Pointer : Nat := 125
abbrev T_func_string_string_int : Nat := 126
abbrev T_int32_int : Nat := 127
abbrev T_func_string_int32_int : Nat := 128
abbrev T_24_uint8 : Nat := 129
abbrev T_func_uint64_int : Nat := 130
abbrev T_func_Sl_uint8_uint64 : Nat := 131
abbrev T_Sl_uint8_string : Nat := 132
abbrev T_func_Sl_uint8_uint64_int_bool_bool_Sl_uint8_string : Nat := 133
abbrev T_func_string_int : Nat := 134
abbrev T_func_string_uint8_int : Nat := 135
abbrev T_func_int_int : Nat := 136
abbrev T_func_bool_int : Nat := 137
abbrev T_20_uint64 : Nat := 138
abbrev T_uint32 : Nat := 139
abbrev T_65_uint8 : Nat := 140
abbrev T_func_int_bool : Nat := 141
abbrev T_func_uint_int : Nat := 142
abbrev T_func_int_Sl_uint8 : Nat := 143
abbrev T_256_uint8 : Nat := 144
abbrev T_struct_lo_uint8_hi_uint8 : Nat := 145
abbrev T_unicode_utf8_acceptRange : Nat := 146
abbrev T_16_utf8_acceptRange : Nat := 147
abbrev T_func_uint32_int : Nat := 148
abbrev T_uint32_uint32 : Nat := 149
abbrev T_func_string_uint32_uint32 : Nat := 150
abbrev T_32_uint8 : Nat := 151
abbrev T_64_uint8 : Nat := 152
abbrev T_struct_interface_Ptr_abi_Type_concrete_Ptr_abi_Type_asserted_Ptr_abi_Type_missingMethod_string : Nat := 153
abbrev T_runtime_TypeAssertionError : Nat := 154
abbrev T_0_Ptr_runtime_PanicNilError : Nat := 155
abbrev T_struct_0_Ptr_runtime_PanicNilError : Nat := 156
abbrev T_runtime_PanicNilError : Nat := 157
abbrev T_internal_abi_TFlag : Nat := 159
abbrev T_internal_abi_Kind : Nat := 160
abbrev T_func_unsafe_Pointer_unsafe_Pointer_bool : Nat := 161
abbrev T_internal_abi_NameOff : Nat := 162
abbrev T_internal_abi_TypeOff : Nat := 163
abbrev T_struct_Size_uintptr_PtrBytes_uintptr_Hash_uint32_TFlag_abi_TFlag_Align_uint8_FieldAlign_uint8_Kind_abi_Kind_Equal_func_unsafe_Pointer_unsafe_Pointer_bool_GCData_Ptr_uint8_Str_abi_NameOff_PtrToThis_abi_TypeOff : Nat := 164
abbrev T_internal_abi_Type : Nat := 165
abbrev f_main_main : Nat := 0
theorem func_main_main : Tryd.prog.funcs[0]? = some Tryd.f0 := Tryd.func0
abbrev f_gosem_cut : Nat := 1
theorem func_gosem_cut : Tryd.prog.funcs[1]? = some Tryd.f1 := Tryd.func1
abbrev f_tarmaclaw22_RowsApart : Nat := 3
theorem en_tarmaclaw22_RowsApart {args : List Value} {w : World} {R : Value → World → Prop} (hlen : Nat.ble args.length 61 = true) (h : SemW Tryd.prog 61 (Tryd.f3.body.getD .skip) (retQ tbl [.tmp 4] R) (argEnv 0 args) w) : Cl Tryd.prog 3 args w R :=
  Cl.enter tblOk Tryd.call3 Tryd.func3 Tryd.ntmps3 rfl Tryd.results3 hlen h
abbrev f_tarmaclaw22_RowsDiff : Nat := 4
theorem en_tarmaclaw22_RowsDiff {args : List Value} {w : World} {R : Value → World → Prop} (hlen : Nat.ble args.length 75 = true) (h : SemW Tryd.prog 75 (Tryd.f4.body.getD .skip) (retQ tbl [.tmp 4] R) (argEnv 0 args) w) : Cl Tryd.prog 4 args w R :=
  Cl.enter tblOk Tryd.call4 Tryd.func4 Tryd.ntmps4 rfl Tryd.results4 hlen h
abbrev f_tarmaclaw22_RowsBytes : Nat := 5
theorem en_tarmaclaw22_RowsBytes {args : List Value} {w : World} {R : Value → World → Prop} (hlen : Nat.ble args.length 107 = true) (h : SemW Tryd.prog 107 (Tryd.f5.body.getD .skip) (retQ tbl [.tmp 6] R) (argEnv 0 args) w) : Cl Tryd.prog 5 args w R :=
  Cl.enter tblOk Tryd.call5 Tryd.func5 Tryd.ntmps5 rfl Tryd.results5 hlen h
abbrev f_tarmaclaw22_lives : Nat := 6
theorem en_tarmaclaw22_lives {args : List Value} {w : World} {R : Value → World → Prop} (hlen : Nat.ble args.length 27 = true) (h : SemW Tryd.prog 27 (Tryd.f6.body.getD .skip) (retQ tbl [.tmp 0] R) (argEnv 0 args) w) : Cl Tryd.prog 6 args w R :=
  Cl.enter tblOk Tryd.call6 Tryd.func6 Tryd.ntmps6 rfl Tryd.results6 hlen h
abbrev f_rows_All : Nat := 7
theorem en_rows_All {args : List Value} {w : World} {R : Value → World → Prop} (hlen : Nat.ble args.length 66 = true) (h : SemW Tryd.prog 66 (Tryd.f7.body.getD .skip) (retQ tbl [.tmp 2, .tmp 3] R) (argEnv 0 args) w) : Cl Tryd.prog 7 args w R :=
  Cl.enter tblOk Tryd.call7 Tryd.func7 Tryd.ntmps7 rfl Tryd.results7 hlen h
abbrev f_rows_End : Nat := 8
theorem en_rows_End {args : List Value} {w : World} {R : Value → World → Prop} (hlen : Nat.ble args.length 10 = true) (h : SemW Tryd.prog 10 (Tryd.f8.body.getD .skip) (retQ tbl [.tmp 0] R) (argEnv 0 args) w) : Cl Tryd.prog 8 args w R :=
  Cl.enter tblOk Tryd.call8 Tryd.func8 Tryd.ntmps8 rfl Tryd.results8 hlen h
abbrev f_rows_Reply : Nat := 9
theorem en_rows_Reply {args : List Value} {w : World} {R : Value → World → Prop} (hlen : Nat.ble args.length 5 = true) (h : SemW Tryd.prog 5 (Tryd.f9.body.getD .skip) (retQ tbl [.tmp 2] R) (argEnv 0 args) w) : Cl Tryd.prog 9 args w R :=
  Cl.enter tblOk Tryd.call9 Tryd.func9 Tryd.ntmps9 rfl Tryd.results9 hlen h
abbrev f_rows_Diff : Nat := 10
theorem en_rows_Diff {args : List Value} {w : World} {R : Value → World → Prop} (hlen : Nat.ble args.length 106 = true) (h : SemW Tryd.prog 106 (Tryd.f10.body.getD .skip) (retQ tbl [.tmp 4, .tmp 5] R) (argEnv 0 args) w) : Cl Tryd.prog 10 args w R :=
  Cl.enter tblOk Tryd.call10 Tryd.func10 Tryd.ntmps10 rfl Tryd.results10 hlen h
abbrev f_tarmacref12_Same : Nat := 11
theorem en_tarmacref12_Same {args : List Value} {w : World} {R : Value → World → Prop} (hlen : Nat.ble args.length 26 = true) (h : SemW Tryd.prog 26 (Tryd.f11.body.getD .skip) (retQ tbl [.tmp 4] R) (argEnv 0 args) w) : Cl Tryd.prog 11 args w R :=
  Cl.enter tblOk Tryd.call11 Tryd.func11 Tryd.ntmps11 rfl Tryd.results11 hlen h
abbrev f_tarmacref12_Write : Nat := 12
theorem en_tarmacref12_Write {args : List Value} {w : World} {R : Value → World → Prop} (hlen : Nat.ble args.length 18 = true) (h : SemW Tryd.prog 18 (Tryd.f12.body.getD .skip) (retQ tbl [.tmp 4] R) (argEnv 0 args) w) : Cl Tryd.prog 12 args w R :=
  Cl.enter tblOk Tryd.call12 Tryd.func12 Tryd.ntmps12 rfl Tryd.results12 hlen h
abbrev f_tarmacref22_All : Nat := 13
theorem en_tarmacref22_All {args : List Value} {w : World} {R : Value → World → Prop} (hlen : Nat.ble args.length 67 = true) (h : SemW Tryd.prog 67 (Tryd.f13.body.getD .skip) (retQ tbl [.tmp 2, .tmp 3] R) (argEnv 0 args) w) : Cl Tryd.prog 13 args w R :=
  Cl.enter tblOk Tryd.call13 Tryd.func13 Tryd.ntmps13 rfl Tryd.results13 hlen h
abbrev f_tarmacref22_Same : Nat := 14
theorem en_tarmacref22_Same {args : List Value} {w : World} {R : Value → World → Prop} (hlen : Nat.ble args.length 26 = true) (h : SemW Tryd.prog 26 (Tryd.f14.body.getD .skip) (retQ tbl [.tmp 4] R) (argEnv 0 args) w) : Cl Tryd.prog 14 args w R :=
  Cl.enter tblOk Tryd.call14 Tryd.func14 Tryd.ntmps14 rfl Tryd.results14 hlen h
abbrev f_tarmacref22_Diff : Nat := 15
theorem en_tarmacref22_Diff {args : List Value} {w : World} {R : Value → World → Prop} (hlen : Nat.ble args.length 81 = true) (h : SemW Tryd.prog 81 (Tryd.f15.body.getD .skip) (retQ tbl [.tmp 4, .tmp 5] R) (argEnv 0 args) w) : Cl Tryd.prog 15 args w R :=
  Cl.enter tblOk Tryd.call15 Tryd.func15 Tryd.ntmps15 rfl Tryd.results15 hlen h
abbrev f_tarmacref22_End : Nat := 16
theorem en_tarmacref22_End {args : List Value} {w : World} {R : Value → World → Prop} (hlen : Nat.ble args.length 10 = true) (h : SemW Tryd.prog 10 (Tryd.f16.body.getD .skip) (retQ tbl [.tmp 0] R) (argEnv 0 args) w) : Cl Tryd.prog 16 args w R :=
  Cl.enter tblOk Tryd.call16 Tryd.func16 Tryd.ntmps16 rfl Tryd.results16 hlen h
abbrev f_tarmacref22_Key : Nat := 17
theorem en_tarmacref22_Key {args : List Value} {w : World} {R : Value → World → Prop} (hlen : Nat.ble args.length 17 = true) (h : SemW Tryd.prog 17 (Tryd.f17.body.getD .skip) (retQ tbl [.tmp 4] R) (argEnv 0 args) w) : Cl Tryd.prog 17 args w R :=
  Cl.enter tblOk Tryd.call17 Tryd.func17 Tryd.ntmps17 rfl Tryd.results17 hlen h
abbrev f_rows_inForm : Nat := 18
theorem en_rows_inForm {args : List Value} {w : World} {R : Value → World → Prop} (hlen : Nat.ble args.length 36 = true) (h : SemW Tryd.prog 36 (Tryd.f18.body.getD .skip) (retQ tbl [.tmp 2] R) (argEnv 0 args) w) : Cl Tryd.prog 18 args w R :=
  Cl.enter tblOk Tryd.call18 Tryd.func18 Tryd.ntmps18 rfl Tryd.results18 hlen h
abbrev f_rows_key : Nat := 19
theorem en_rows_key {args : List Value} {w : World} {R : Value → World → Prop} (hlen : Nat.ble args.length 19 = true) (h : SemW Tryd.prog 19 (Tryd.f19.body.getD .skip) (retQ tbl [.tmp 4] R) (argEnv 0 args) w) : Cl Tryd.prog 19 args w R :=
  Cl.enter tblOk Tryd.call19 Tryd.func19 Tryd.ntmps19 rfl Tryd.results19 hlen h
abbrev f_rows_equip : Nat := 20
theorem en_rows_equip {args : List Value} {w : World} {R : Value → World → Prop} (hlen : Nat.ble args.length 48 = true) (h : SemW Tryd.prog 48 (Tryd.f20.body.getD .skip) (retQ tbl [.tmp 2] R) (argEnv 0 args) w) : Cl Tryd.prog 20 args w R :=
  Cl.enter tblOk Tryd.call20 Tryd.func20 Tryd.ntmps20 rfl Tryd.results20 hlen h
abbrev f_rows_flight : Nat := 21
theorem en_rows_flight {args : List Value} {w : World} {R : Value → World → Prop} (hlen : Nat.ble args.length 24 = true) (h : SemW Tryd.prog 24 (Tryd.f21.body.getD .skip) (retQ tbl [.tmp 2] R) (argEnv 0 args) w) : Cl Tryd.prog 21 args w R :=
  Cl.enter tblOk Tryd.call21 Tryd.func21 Tryd.ntmps21 rfl Tryd.results21 hlen h
abbrev f_rows_pax : Nat := 22
theorem en_rows_pax {args : List Value} {w : World} {R : Value → World → Prop} (hlen : Nat.ble args.length 52 = true) (h : SemW Tryd.prog 52 (Tryd.f22.body.getD .skip) (retQ tbl [.tmp 2] R) (argEnv 0 args) w) : Cl Tryd.prog 22 args w R :=
  Cl.enter tblOk Tryd.call22 Tryd.func22 Tryd.ntmps22 rfl Tryd.results22 hlen h
abbrev f_order_Key : Nat := 23
theorem en_order_Key {args : List Value} {w : World} {R : Value → World → Prop} (hlen : Nat.ble args.length 46 = true) (h : SemW Tryd.prog 46 (Tryd.f23.body.getD .skip) (retQ tbl [.tmp 2, .tmp 3] R) (argEnv 0 args) w) : Cl Tryd.prog 23 args w R :=
  Cl.enter tblOk Tryd.call23 Tryd.func23 Tryd.ntmps23 rfl Tryd.results23 hlen h
abbrev f_order_Text : Nat := 24
theorem en_order_Text {args : List Value} {w : World} {R : Value → World → Prop} (hlen : Nat.ble args.length 22 = true) (h : SemW Tryd.prog 22 (Tryd.f24.body.getD .skip) (retQ tbl [.tmp 2] R) (argEnv 0 args) w) : Cl Tryd.prog 24 args w R :=
  Cl.enter tblOk Tryd.call24 Tryd.func24 Tryd.ntmps24 rfl Tryd.results24 hlen h
abbrev f_tarmacref12_Put : Nat := 25
theorem en_tarmacref12_Put {args : List Value} {w : World} {R : Value → World → Prop} (hlen : Nat.ble args.length 61 = true) (h : SemW Tryd.prog 61 (Tryd.f25.body.getD .skip) (retQ tbl [.tmp 4] R) (argEnv 0 args) w) : Cl Tryd.prog 25 args w R :=
  Cl.enter tblOk Tryd.call25 Tryd.func25 Tryd.ntmps25 rfl Tryd.results25 hlen h
abbrev f_tarmacref22_Form : Nat := 26
theorem en_tarmacref22_Form {args : List Value} {w : World} {R : Value → World → Prop} (hlen : Nat.ble args.length 92 = true) (h : SemW Tryd.prog 92 (Tryd.f26.body.getD .skip) (retQ tbl [.tmp 2] R) (argEnv 0 args) w) : Cl Tryd.prog 26 args w R :=
  Cl.enter tblOk Tryd.call26 Tryd.func26 Tryd.ntmps26 rfl Tryd.results26 hlen h
abbrev f_tarmacref22_Rows : Nat := 27
theorem en_tarmacref22_Rows {args : List Value} {w : World} {R : Value → World → Prop} (hlen : Nat.ble args.length 46 = true) (h : SemW Tryd.prog 46 (Tryd.f27.body.getD .skip) (retQ tbl [.tmp 2] R) (argEnv 0 args) w) : Cl Tryd.prog 27 args w R :=
  Cl.enter tblOk Tryd.call27 Tryd.func27 Tryd.ntmps27 rfl Tryd.results27 hlen h
abbrev f_tarmacref22_flight : Nat := 28
theorem en_tarmacref22_flight {args : List Value} {w : World} {R : Value → World → Prop} (hlen : Nat.ble args.length 28 = true) (h : SemW Tryd.prog 28 (Tryd.f28.body.getD .skip) (retQ tbl [.tmp 2] R) (argEnv 0 args) w) : Cl Tryd.prog 28 args w R :=
  Cl.enter tblOk Tryd.call28 Tryd.func28 Tryd.ntmps28 rfl Tryd.results28 hlen h
abbrev f_tarmacref22_Pax : Nat := 29
theorem en_tarmacref22_Pax {args : List Value} {w : World} {R : Value → World → Prop} (hlen : Nat.ble args.length 53 = true) (h : SemW Tryd.prog 53 (Tryd.f29.body.getD .skip) (retQ tbl [.tmp 2] R) (argEnv 0 args) w) : Cl Tryd.prog 29 args w R :=
  Cl.enter tblOk Tryd.call29 Tryd.func29 Tryd.ntmps29 rfl Tryd.results29 hlen h
abbrev f_tarmacref22_find : Nat := 30
theorem en_tarmacref22_find {args : List Value} {w : World} {R : Value → World → Prop} (hlen : Nat.ble args.length 21 = true) (h : SemW Tryd.prog 21 (Tryd.f30.body.getD .skip) (retQ tbl [.cell 4 33, .tmp 5] R) (argEnv 0 args) w) : Cl Tryd.prog 30 args w R :=
  Cl.enter tblOk Tryd.call30 Tryd.func30 Tryd.ntmps30 rfl Tryd.results30 hlen h
abbrev f_tarmacref22_put : Nat := 31
theorem en_tarmacref22_put {args : List Value} {w : World} {R : Value → World → Prop} (hlen : Nat.ble args.length 38 = true) (h : SemW Tryd.prog 38 (Tryd.f31.body.getD .skip) (retQ tbl [.tmp 4] R) (argEnv 0 args) w) : Cl Tryd.prog 31 args w R :=
  Cl.enter tblOk Tryd.call31 Tryd.func31 Tryd.ntmps31 rfl Tryd.results31 hlen h
abbrev f_tarmacref03_Key : Nat := 32
theorem en_tarmacref03_Key {args : List Value} {w : World} {R : Value → World → Prop} (hlen : Nat.ble args.length 74 = true) (h : SemW Tryd.prog 74 (Tryd.f32.body.getD .skip) (retQ tbl [.tmp 2, .tmp 3] R) (argEnv 0 args) w) : Cl Tryd.prog 32 args w R :=
  Cl.enter tblOk Tryd.call32 Tryd.func32 Tryd.ntmps32 rfl Tryd.results32 hlen h
abbrev f_cabin_Label : Nat := 33
theorem en_cabin_Label {args : List Value} {w : World} {R : Value → World → Prop} (hlen : Nat.ble args.length 25 = true) (h : SemW Tryd.prog 25 (Tryd.f33.body.getD .skip) (retQ tbl [.tmp 2] R) (argEnv 0 args) w) : Cl Tryd.prog 33 args w R :=
  Cl.enter tblOk Tryd.call33 Tryd.func33 Tryd.ntmps33 rfl Tryd.results33 hlen h
abbrev f_rows_rising_api_Equip : Nat := 34
theorem en_rows_rising_api_Equip {args : List Value} {w : World} {R : Value → World → Prop} (hlen : Nat.ble args.length 26 = true) (h : SemW Tryd.prog 26 (Tryd.f34.body.getD .skip) (retQ tbl [.tmp 4] R) (argEnv 0 args) w) : Cl Tryd.prog 34 args w R :=
  Cl.enter tblOk Tryd.call34 Tryd.func34 Tryd.ntmps34 rfl Tryd.results34 hlen h
abbrev f_rows_inForm_1 : Nat := 35
theorem en_rows_inForm_1 {args : List Value} {w : World} {R : Value → World → Prop} (hlen : Nat.ble args.length 5 = true) (h : SemW Tryd.prog 5 (Tryd.f35.body.getD .skip) (retQ tbl [.tmp 2] R) (argEnv 0 args) w) : Cl Tryd.prog 35 args w R :=
  Cl.enter tblOk Tryd.call35 Tryd.func35 Tryd.ntmps35 rfl Tryd.results35 hlen h
abbrev f_rows_rising_api_Flight : Nat := 36
theorem en_rows_rising_api_Flight {args : List Value} {w : World} {R : Value → World → Prop} (hlen : Nat.ble args.length 26 = true) (h : SemW Tryd.prog 26 (Tryd.f36.body.getD .skip) (retQ tbl [.tmp 4] R) (argEnv 0 args) w) : Cl Tryd.prog 36 args w R :=
  Cl.enter tblOk Tryd.call36 Tryd.func36 Tryd.ntmps36 rfl Tryd.results36 hlen h
abbrev f_rows_inForm_2 : Nat := 37
theorem en_rows_inForm_2 {args : List Value} {w : World} {R : Value → World → Prop} (hlen : Nat.ble args.length 5 = true) (h : SemW Tryd.prog 5 (Tryd.f37.body.getD .skip) (retQ tbl [.tmp 2] R) (argEnv 0 args) w) : Cl Tryd.prog 37 args w R :=
  Cl.enter tblOk Tryd.call37 Tryd.func37 Tryd.ntmps37 rfl Tryd.results37 hlen h
abbrev f_rows_rising_api_Pax : Nat := 38
theorem en_rows_rising_api_Pax {args : List Value} {w : World} {R : Value → World → Prop} (hlen : Nat.ble args.length 26 = true) (h : SemW Tryd.prog 26 (Tryd.f38.body.getD .skip) (retQ tbl [.tmp 4] R) (argEnv 0 args) w) : Cl Tryd.prog 38 args w R :=
  Cl.enter tblOk Tryd.call38 Tryd.func38 Tryd.ntmps38 rfl Tryd.results38 hlen h
abbrev f_rows_inForm_3 : Nat := 39
theorem en_rows_inForm_3 {args : List Value} {w : World} {R : Value → World → Prop} (hlen : Nat.ble args.length 5 = true) (h : SemW Tryd.prog 5 (Tryd.f39.body.getD .skip) (retQ tbl [.tmp 2] R) (argEnv 0 args) w) : Cl Tryd.prog 39 args w R :=
  Cl.enter tblOk Tryd.call39 Tryd.func39 Tryd.ntmps39 rfl Tryd.results39 hlen h
abbrev f_order_Int : Nat := 40
theorem en_order_Int {args : List Value} {w : World} {R : Value → World → Prop} (hlen : Nat.ble args.length 22 = true) (h : SemW Tryd.prog 22 (Tryd.f40.body.getD .skip) (retQ tbl [.tmp 2] R) (argEnv 0 args) w) : Cl Tryd.prog 40 args w R :=
  Cl.enter tblOk Tryd.call40 Tryd.func40 Tryd.ntmps40 rfl Tryd.results40 hlen h
abbrev f_pack_New : Nat := 41
theorem en_pack_New {args : List Value} {w : World} {R : Value → World → Prop} (hlen : Nat.ble args.length 3 = true) (h : SemW Tryd.prog 3 (Tryd.f41.body.getD .skip) (retQ tbl [.tmp 0] R) (argEnv 0 args) w) : Cl Tryd.prog 41 args w R :=
  Cl.enter tblOk Tryd.call41 Tryd.func41 Tryd.ntmps41 rfl Tryd.results41 hlen h
abbrev f_pack_Writer_Num : Nat := 42
theorem en_pack_Writer_Num {args : List Value} {w : World} {R : Value → World → Prop} (hlen : Nat.ble args.length 28 = true) (h : SemW Tryd.prog 28 (Tryd.f42.body.getD .skip) (retQ tbl [] R) (argEnv 0 args) w) : Cl Tryd.prog 42 args w R :=
  Cl.enter tblOk Tryd.call42 Tryd.func42 Tryd.ntmps42 rfl Tryd.results42 hlen h
abbrev f_pack_Writer_Int : Nat := 43
theorem en_pack_Writer_Int {args : List Value} {w : World} {R : Value → World → Prop} (hlen : Nat.ble args.length 23 = true) (h : SemW Tryd.prog 23 (Tryd.f43.body.getD .skip) (retQ tbl [] R) (argEnv 0 args) w) : Cl Tryd.prog 43 args w R :=
  Cl.enter tblOk Tryd.call43 Tryd.func43 Tryd.ntmps43 rfl Tryd.results43 hlen h
abbrev f_rows_writer_marks : Nat := 44
theorem en_rows_writer_marks {args : List Value} {w : World} {R : Value → World → Prop} (hlen : Nat.ble args.length 26 = true) (h : SemW Tryd.prog 26 (Tryd.f44.body.getD .skip) (retQ tbl [] R) (argEnv 0 args) w) : Cl Tryd.prog 44 args w R :=
  Cl.enter tblOk Tryd.call44 Tryd.func44 Tryd.ntmps44 rfl Tryd.results44 hlen h
abbrev f_pack_Writer_Text : Nat := 45
theorem en_pack_Writer_Text {args : List Value} {w : World} {R : Value → World → Prop} (hlen : Nat.ble args.length 23 = true) (h : SemW Tryd.prog 23 (Tryd.f45.body.getD .skip) (retQ tbl [] R) (argEnv 0 args) w) : Cl Tryd.prog 45 args w R :=
  Cl.enter tblOk Tryd.call45 Tryd.func45 Tryd.ntmps45 rfl Tryd.results45 hlen h
abbrev f_pack_Writer_Bytes : Nat := 46
theorem en_pack_Writer_Bytes {args : List Value} {w : World} {R : Value → World → Prop} (hlen : Nat.ble args.length 8 = true) (h : SemW Tryd.prog 8 (Tryd.f46.body.getD .skip) (retQ tbl [.tmp 2] R) (argEnv 0 args) w) : Cl Tryd.prog 46 args w R :=
  Cl.enter tblOk Tryd.call46 Tryd.func46 Tryd.ntmps46 rfl Tryd.results46 hlen h
abbrev f_order_builder_number : Nat := 47
theorem en_order_builder_number {args : List Value} {w : World} {R : Value → World → Prop} (hlen : Nat.ble args.length 26 = true) (h : SemW Tryd.prog 26 (Tryd.f47.body.getD .skip) (retQ tbl [] R) (argEnv 0 args) w) : Cl Tryd.prog 47 args w R :=
  Cl.enter tblOk Tryd.call47 Tryd.func47 Tryd.ntmps47 rfl Tryd.results47 hlen h
abbrev f_order_builder_text : Nat := 48
theorem en_order_builder_text {args : List Value} {w : World} {R : Value → World → Prop} (hlen : Nat.ble args.length 18 = true) (h : SemW Tryd.prog 18 (Tryd.f48.body.getD .skip) (retQ tbl [] R) (argEnv 0 args) w) : Cl Tryd.prog 48 args w R :=
  Cl.enter tblOk Tryd.call48 Tryd.func48 Tryd.ntmps48 rfl Tryd.results48 hlen h
abbrev f_strings_Builder_String : Nat := 49
theorem en_strings_Builder_String {args : List Value} {w : World} {R : Value → World → Prop} (hlen : Nat.ble args.length 14 = true) (h : SemW Tryd.prog 14 (Tryd.f49.body.getD .skip) (retQ tbl [.tmp 2] R) (argEnv 0 args) w) : Cl Tryd.prog 49 args w R :=
  Cl.enter tblOk Tryd.call49 Tryd.func49 Tryd.ntmps49 rfl Tryd.results49 hlen h
abbrev f_tarmacref13_Label : Nat := 50
theorem en_tarmacref13_Label {args : List Value} {w : World} {R : Value → World → Prop} (hlen : Nat.ble args.length 29 = true) (h : SemW Tryd.prog 29 (Tryd.f50.body.getD .skip) (retQ tbl [.tmp 2] R) (argEnv 0 args) w) : Cl Tryd.prog 50 args w R :=
  Cl.enter tblOk Tryd.call50 Tryd.func50 Tryd.ntmps50 rfl Tryd.results50 hlen h
abbrev f_tarmacref01_Num : Nat := 51
theorem en_tarmacref01_Num {args : List Value} {w : World} {R : Value → World → Prop} (hlen : Nat.ble args.length 21 = true) (h : SemW Tryd.prog 21 (Tryd.f51.body.getD .skip) (retQ tbl [.tmp 2] R) (argEnv 0 args) w) : Cl Tryd.prog 51 args w R :=
  Cl.enter tblOk Tryd.call51 Tryd.func51 Tryd.ntmps51 rfl Tryd.results51 hlen h
abbrev f_tarmacref01_Int : Nat := 52
theorem en_tarmacref01_Int {args : List Value} {w : World} {R : Value → World → Prop} (hlen : Nat.ble args.length 6 = true) (h : SemW Tryd.prog 6 (Tryd.f52.body.getD .skip) (retQ tbl [.tmp 2] R) (argEnv 0 args) w) : Cl Tryd.prog 52 args w R :=
  Cl.enter tblOk Tryd.call52 Tryd.func52 Tryd.ntmps52 rfl Tryd.results52 hlen h
abbrev f_tarmacref22_bit : Nat := 53
theorem en_tarmacref22_bit {args : List Value} {w : World} {R : Value → World → Prop} (hlen : Nat.ble args.length 7 = true) (h : SemW Tryd.prog 7 (Tryd.f53.body.getD .skip) (retQ tbl [.tmp 4] R) (argEnv 0 args) w) : Cl Tryd.prog 53 args w R :=
  Cl.enter tblOk Tryd.call53 Tryd.func53 Tryd.ntmps53 rfl Tryd.results53 hlen h
abbrev f_tarmacref01_Text : Nat := 54
theorem en_tarmacref01_Text {args : List Value} {w : World} {R : Value → World → Prop} (hlen : Nat.ble args.length 9 = true) (h : SemW Tryd.prog 9 (Tryd.f54.body.getD .skip) (retQ tbl [.tmp 2] R) (argEnv 0 args) w) : Cl Tryd.prog 54 args w R :=
  Cl.enter tblOk Tryd.call54 Tryd.func54 Tryd.ntmps54 rfl Tryd.results54 hlen h
abbrev f_tarmacref22_label : Nat := 55
theorem en_tarmacref22_label {args : List Value} {w : World} {R : Value → World → Prop} (hlen : Nat.ble args.length 8 = true) (h : SemW Tryd.prog 8 (Tryd.f55.body.getD .skip) (retQ tbl [.tmp 2] R) (argEnv 0 args) w) : Cl Tryd.prog 55 args w R :=
  Cl.enter tblOk Tryd.call55 Tryd.func55 Tryd.ntmps55 rfl Tryd.results55 hlen h
abbrev f_tarmacref03_Right : Nat := 56
theorem en_tarmacref03_Right {args : List Value} {w : World} {R : Value → World → Prop} (hlen : Nat.ble args.length 21 = true) (h : SemW Tryd.prog 21 (Tryd.f56.body.getD .skip) (retQ tbl [.tmp 2] R) (argEnv 0 args) w) : Cl Tryd.prog 56 args w R :=
  Cl.enter tblOk Tryd.call56 Tryd.func56 Tryd.ntmps56 rfl Tryd.results56 hlen h
abbrev f_cabin_between : Nat := 57
theorem en_cabin_between {args : List Value} {w : World} {R : Value → World → Prop} (hlen : Nat.ble args.length 15 = true) (h : SemW Tryd.prog 15 (Tryd.f57.body.getD .skip) (retQ tbl [.tmp 6] R) (argEnv 0 args) w) : Cl Tryd.prog 57 args w R :=
  Cl.enter tblOk Tryd.call57 Tryd.func57 Tryd.ntmps57 rfl Tryd.results57 hlen h
abbrev f_strconv_Itoa : Nat := 58
theorem en_strconv_Itoa {args : List Value} {w : World} {R : Value → World → Prop} (hlen : Nat.ble args.length 5 = true) (h : SemW Tryd.prog 5 (Tryd.f58.body.getD .skip) (retQ tbl [.tmp 2] R) (argEnv 0 args) w) : Cl Tryd.prog 58 args w R :=
  Cl.enter tblOk Tryd.call58 Tryd.func58 Tryd.ntmps58 rfl Tryd.results58 hlen h
abbrev f_pack_Writer_add : Nat := 59
theorem en_pack_Writer_add {args : List Value} {w : World} {R : Value → World → Prop} (hlen : Nat.ble args.length 24 = true) (h : SemW Tryd.prog 24 (Tryd.f59.body.getD .skip) (retQ tbl [] R) (argEnv 0 args) w) : Cl Tryd.prog 59 args w R :=
  Cl.enter tblOk Tryd.call59 Tryd.func59 Tryd.ntmps59 rfl Tryd.results59 hlen h
abbrev f_strings_Builder_WriteByte : Nat := 60
theorem en_strings_Builder_WriteByte {args : List Value} {w : World} {R : Value → World → Prop} (hlen : Nat.ble args.length 17 = true) (h : SemW Tryd.prog 17 (Tryd.f60.body.getD .skip) (retQ tbl [.tmp 4] R) (argEnv 0 args) w) : Cl Tryd.prog 60 args w R :=
  Cl.enter tblOk Tryd.call60 Tryd.func60 Tryd.ntmps60 rfl Tryd.results60 hlen h
abbrev f_strings_Builder_WriteString : Nat := 61
theorem en_strings_Builder_WriteString {args : List Value} {w : World} {R : Value → World → Prop} (hlen : Nat.ble args.length 19 = true) (h : SemW Tryd.prog 19 (Tryd.f61.body.getD .skip) (retQ tbl [.tmp 4, .tmp 5] R) (argEnv 0 args) w) : Cl Tryd.prog 61 args w R :=
  Cl.enter tblOk Tryd.call61 Tryd.func61 Tryd.ntmps61 rfl Tryd.results61 hlen h
abbrev f_strings_ReplaceAll : Nat := 62
theorem en_strings_ReplaceAll {args : List Value} {w : World} {R : Value → World → Prop} (hlen : Nat.ble args.length 11 = true) (h : SemW Tryd.prog 11 (Tryd.f62.body.getD .skip) (retQ tbl [.tmp 6] R) (argEnv 0 args) w) : Cl Tryd.prog 62 args w R :=
  Cl.enter tblOk Tryd.call62 Tryd.func62 Tryd.ntmps62 rfl Tryd.results62 hlen h
abbrev f_tarmacref01_Fold : Nat := 63
theorem en_tarmacref01_Fold {args : List Value} {w : World} {R : Value → World → Prop} (hlen : Nat.ble args.length 14 = true) (h : SemW Tryd.prog 14 (Tryd.f63.body.getD .skip) (retQ tbl [.tmp 2] R) (argEnv 0 args) w) : Cl Tryd.prog 63 args w R :=
  Cl.enter tblOk Tryd.call63 Tryd.func63 Tryd.ntmps63 rfl Tryd.results63 hlen h
abbrev f_internal_strconv_Itoa : Nat := 64
theorem en_internal_strconv_Itoa {args : List Value} {w : World} {R : Value → World → Prop} (hlen : Nat.ble args.length 5 = true) (h : SemW Tryd.prog 5 (Tryd.f64.body.getD .skip) (retQ tbl [.tmp 2] R) (argEnv 0 args) w) : Cl Tryd.prog 64 args w R :=
  Cl.enter tblOk Tryd.call64 Tryd.func64 Tryd.ntmps64 rfl Tryd.results64 hlen h
abbrev f_strings_Builder_copyCheck : Nat := 65
theorem en_strings_Builder_copyCheck {args : List Value} {w : World} {R : Value → World → Prop} (hlen : Nat.ble args.length 20 = true) (h : SemW Tryd.prog 20 (Tryd.f65.body.getD .skip) (retQ tbl [] R) (argEnv 0 args) w) : Cl Tryd.prog 65 args w R :=
  Cl.enter tblOk Tryd.call65 Tryd.func65 Tryd.ntmps65 rfl Tryd.results65 hlen h
abbrev f_strings_Replace : Nat := 66
theorem en_strings_Replace {args : List Value} {w : World} {R : Value → World → Prop} (hlen : Nat.ble args.length 104 = true) (h : SemW Tryd.prog 104 (Tryd.f66.body.getD .skip) (retQ tbl [.tmp 8] R) (argEnv 0 args) w) : Cl Tryd.prog 66 args w R :=
  Cl.enter tblOk Tryd.call66 Tryd.func66 Tryd.ntmps66 rfl Tryd.results66 hlen h
abbrev f_internal_strconv_FormatInt : Nat := 67
theorem en_internal_strconv_FormatInt {args : List Value} {w : World} {R : Value → World → Prop} (hlen : Nat.ble args.length 54 = true) (h : SemW Tryd.prog 54 (Tryd.f67.body.getD .skip) (retQ tbl [.tmp 4] R) (argEnv 0 args) w) : Cl Tryd.prog 67 args w R :=
  Cl.enter tblOk Tryd.call67 Tryd.func67 Tryd.ntmps67 rfl Tryd.results67 hlen h
abbrev f_internal_abi_NoEscape : Nat := 68
theorem func_internal_abi_NoEscape : Tryd.prog.funcs[68]? = some Tryd.f68 := Tryd.func68
abbrev f_strings_Count : Nat := 69
theorem en_strings_Count {args : List Value} {w : World} {R : Value → World → Prop} (hlen : Nat.ble args.length 34 = true) (h : SemW Tryd.prog 34 (Tryd.f69.body.getD .skip) (retQ tbl [.tmp 4] R) (argEnv 0 args) w) : Cl Tryd.prog 69 args w R :=
  Cl.enter tblOk Tryd.call69 Tryd.func69 Tryd.ntmps69 rfl Tryd.results69 hlen h
abbrev f_strings_Builder_Grow : Nat := 70
theorem en_strings_Builder_Grow {args : List Value} {w : World} {R : Value → World → Prop} (hlen : Nat.ble args.length 25 = true) (h : SemW Tryd.prog 25 (Tryd.f70.body.getD .skip) (retQ tbl [] R) (argEnv 0 args) w) : Cl Tryd.prog 70 args w R :=
  Cl.enter tblOk Tryd.call70 Tryd.func70 Tryd.ntmps70 rfl Tryd.results70 hlen h
abbrev f_strings_Index : Nat := 71
theorem en_strings_Index {args : List Value} {w : World} {R : Value → World → Prop} (hlen : Nat.ble args.length 8 = true) (h : SemW Tryd.prog 8 (Tryd.f71.body.getD .skip) (retQ tbl [.tmp 4] R) (argEnv 0 args) w) : Cl Tryd.prog 71 args w R :=
  Cl.enter tblOk Tryd.call71 Tryd.func71 Tryd.ntmps71 rfl Tryd.results71 hlen h
abbrev f_unicode_utf8_DecodeRuneInString : Nat := 72
theorem en_unicode_utf8_DecodeRuneInString {args : List Value} {w : World} {R : Value → World → Prop} (hlen : Nat.ble args.length 19 = true) (h : SemW Tryd.prog 19 (Tryd.f72.body.getD .skip) (retQ tbl [.tmp 2, .tmp 3] R) (argEnv 0 args) w) : Cl Tryd.prog 72 args w R :=
  Cl.enter tblOk Tryd.call72 Tryd.func72 Tryd.ntmps72 rfl Tryd.results72 hlen h
abbrev f_internal_strconv_small : Nat := 73
theorem en_internal_strconv_small {args : List Value} {w : World} {R : Value → World → Prop} (hlen : Nat.ble args.length 15 = true) (h : SemW Tryd.prog 15 (Tryd.f73.body.getD .skip) (retQ tbl [.tmp 2] R) (argEnv 0 args) w) : Cl Tryd.prog 73 args w R :=
  Cl.enter tblOk Tryd.call73 Tryd.func73 Tryd.ntmps73 rfl Tryd.results73 hlen h
abbrev f_internal_strconv_numDigits : Nat := 74
theorem en_internal_strconv_numDigits {args : List Value} {w : World} {R : Value → World → Prop} (hlen : Nat.ble args.length 15 = true) (h : SemW Tryd.prog 15 (Tryd.f74.body.getD .skip) (retQ tbl [.tmp 2] R) (argEnv 0 args) w) : Cl Tryd.prog 74 args w R :=
  Cl.enter tblOk Tryd.call74 Tryd.func74 Tryd.ntmps74 rfl Tryd.results74 hlen h
abbrev f_internal_strconv_formatBase10 : Nat := 75
theorem en_internal_strconv_formatBase10 {args : List Value} {w : World} {R : Value → World → Prop} (hlen : Nat.ble args.length 167 = true) (h : SemW Tryd.prog 167 (Tryd.f75.body.getD .skip) (retQ tbl [] R) (argEnv 0 args) w) : Cl Tryd.prog 75 args w R :=
  Cl.enter tblOk Tryd.call75 Tryd.func75 Tryd.ntmps75 rfl Tryd.results75 hlen h
abbrev f_internal_strconv_formatBits : Nat := 76
theorem en_internal_strconv_formatBits {args : List Value} {w : World} {R : Value → World → Prop} (hlen : Nat.ble args.length 102 = true) (h : SemW Tryd.prog 102 (Tryd.f76.body.getD .skip) (retQ tbl [.tmp 10, .tmp 11] R) (argEnv 0 args) w) : Cl Tryd.prog 76 args w R :=
  Cl.enter tblOk Tryd.call76 Tryd.func76 Tryd.ntmps76 rfl Tryd.results76 hlen h
abbrev f_unicode_utf8_RuneCountInString : Nat := 77
theorem en_unicode_utf8_RuneCountInString {args : List Value} {w : World} {R : Value → World → Prop} (hlen : Nat.ble args.length 10 = true) (h : SemW Tryd.prog 10 (Tryd.f77.body.getD .skip) (retQ tbl [.tmp 2] R) (argEnv 0 args) w) : Cl Tryd.prog 77 args w R :=
  Cl.enter tblOk Tryd.call77 Tryd.func77 Tryd.ntmps77 rfl Tryd.results77 hlen h
abbrev f_internal_bytealg_CountString : Nat := 78
theorem func_internal_bytealg_CountString : Tryd.prog.funcs[78]? = some Tryd.f78 := Tryd.func78
abbrev f_strings_Builder_grow : Nat := 79
theorem en_strings_Builder_grow {args : List Value} {w : World} {R : Value → World → Prop} (hlen : Nat.ble args.length 30 = true) (h : SemW Tryd.prog 30 (Tryd.f79.body.getD .skip) (retQ tbl [] R) (argEnv 0 args) w) : Cl Tryd.prog 79 args w R :=
  Cl.enter tblOk Tryd.call79 Tryd.func79 Tryd.ntmps79 rfl Tryd.results79 hlen h
abbrev f_internal_stringslite_Index : Nat := 80
theorem en_internal_stringslite_Index {args : List Value} {w : World} {R : Value → World → Prop} (hlen : Nat.ble args.length 143 = true) (h : SemW Tryd.prog 143 (Tryd.f80.body.getD .skip) (retQ tbl [.tmp 4] R) (argEnv 0 args) w) : Cl Tryd.prog 80 args w R :=
  Cl.enter tblOk Tryd.call80 Tryd.func80 Tryd.ntmps80 rfl Tryd.results80 hlen h
abbrev f_unicode_utf8_decodeRuneInStringSlow : Nat := 81
theorem en_unicode_utf8_decodeRuneInStringSlow {args : List Value} {w : World} {R : Value → World → Prop} (hlen : Nat.ble args.length 117 = true) (h : SemW Tryd.prog 117 (Tryd.f81.body.getD .skip) (retQ tbl [.tmp 2, .tmp 3] R) (argEnv 0 args) w) : Cl Tryd.prog 81 args w R :=
  Cl.enter tblOk Tryd.call81 Tryd.func81 Tryd.ntmps81 rfl Tryd.results81 hlen h
abbrev f_internal_strconv_log10Pow2 : Nat := 82
theorem en_internal_strconv_log10Pow2 {args : List Value} {w : World} {R : Value → World → Prop} (hlen : Nat.ble args.length 6 = true) (h : SemW Tryd.prog 6 (Tryd.f82.body.getD .skip) (retQ tbl [.tmp 2] R) (argEnv 0 args) w) : Cl Tryd.prog 82 args w R :=
  Cl.enter tblOk Tryd.call82 Tryd.func82 Tryd.ntmps82 rfl Tryd.results82 hlen h
abbrev f_math_bits_Len64 : Nat := 83
theorem en_math_bits_Len64 {args : List Value} {w : World} {R : Value → World → Prop} (hlen : Nat.ble args.length 25 = true) (h : SemW Tryd.prog 25 (Tryd.f83.body.getD .skip) (retQ tbl [.tmp 2] R) (argEnv 0 args) w) : Cl Tryd.prog 83 args w R :=
  Cl.enter tblOk Tryd.call83 Tryd.func83 Tryd.ntmps83 rfl Tryd.results83 hlen h
abbrev f_internal_strconv_bool2_int : Nat := 84
theorem en_internal_strconv_bool2_int {args : List Value} {w : World} {R : Value → World → Prop} (hlen : Nat.ble args.length 4 = true) (h : SemW Tryd.prog 4 (Tryd.f84.body.getD .skip) (retQ tbl [.tmp 2] R) (argEnv 0 args) w) : Cl Tryd.prog 84 args w R :=
  Cl.enter tblOk Tryd.call84 Tryd.func84 Tryd.ntmps84 rfl Tryd.results84 hlen h
abbrev f_internal_strconv_isPowerOfTwo : Nat := 85
theorem en_internal_strconv_isPowerOfTwo {args : List Value} {w : World} {R : Value → World → Prop} (hlen : Nat.ble args.length 8 = true) (h : SemW Tryd.prog 8 (Tryd.f85.body.getD .skip) (retQ tbl [.tmp 2] R) (argEnv 0 args) w) : Cl Tryd.prog 85 args w R :=
  Cl.enter tblOk Tryd.call85 Tryd.func85 Tryd.ntmps85 rfl Tryd.results85 hlen h
abbrev f_math_bits_TrailingZeros : Nat := 86
theorem en_math_bits_TrailingZeros {args : List Value} {w : World} {R : Value → World → Prop} (hlen : Nat.ble args.length 8 = true) (h : SemW Tryd.prog 8 (Tryd.f86.body.getD .skip) (retQ tbl [.tmp 2] R) (argEnv 0 args) w) : Cl Tryd.prog 86 args w R :=
  Cl.enter tblOk Tryd.call86 Tryd.func86 Tryd.ntmps86 rfl Tryd.results86 hlen h
abbrev f_internal_bytealg_MakeNoZero : Nat := 87
theorem func_internal_bytealg_MakeNoZero : Tryd.prog.funcs[87]? = some Tryd.f87 := Tryd.func87
abbrev f_internal_stringslite_IndexByte : Nat := 88
theorem en_internal_stringslite_IndexByte {args : List Value} {w : World} {R : Value → World → Prop} (hlen : Nat.ble args.length 8 = true) (h : SemW Tryd.prog 8 (Tryd.f88.body.getD .skip) (retQ tbl [.tmp 4] R) (argEnv 0 args) w) : Cl Tryd.prog 88 args w R :=
  Cl.enter tblOk Tryd.call88 Tryd.func88 Tryd.ntmps88 rfl Tryd.results88 hlen h
abbrev f_internal_bytealg_IndexString : Nat := 89
theorem func_internal_bytealg_IndexString : Tryd.prog.funcs[89]? = some Tryd.f89 := Tryd.func89
abbrev f_internal_bytealg_Cutover : Nat := 90
theorem en_internal_bytealg_Cutover {args : List Value} {w : World} {R : Value → World → Prop} (hlen : Nat.ble args.length 6 = true) (h : SemW Tryd.prog 6 (Tryd.f90.body.getD .skip) (retQ tbl [.tmp 2] R) (argEnv 0 args) w) : Cl Tryd.prog 90 args w R :=
  Cl.enter tblOk Tryd.call90 Tryd.func90 Tryd.ntmps90 rfl Tryd.results90 hlen h
abbrev f_internal_bytealg_IndexRabinKarp_string : Nat := 91
theorem en_internal_bytealg_IndexRabinKarp_string {args : List Value} {w : World} {R : Value → World → Prop} (hlen : Nat.ble args.length 81 = true) (h : SemW Tryd.prog 81 (Tryd.f91.body.getD .skip) (retQ tbl [.tmp 4] R) (argEnv 0 args) w) : Cl Tryd.prog 91 args w R :=
  Cl.enter tblOk Tryd.call91 Tryd.func91 Tryd.ntmps91 rfl Tryd.results91 hlen h
abbrev f_math_bits_TrailingZeros32 : Nat := 92
theorem en_math_bits_TrailingZeros32 {args : List Value} {w : World} {R : Value → World → Prop} (hlen : Nat.ble args.length 14 = true) (h : SemW Tryd.prog 14 (Tryd.f92.body.getD .skip) (retQ tbl [.tmp 2] R) (argEnv 0 args) w) : Cl Tryd.prog 92 args w R :=
  Cl.enter tblOk Tryd.call92 Tryd.func92 Tryd.ntmps92 rfl Tryd.results92 hlen h
abbrev f_math_bits_TrailingZeros64 : Nat := 93
theorem en_math_bits_TrailingZeros64 {args : List Value} {w : World} {R : Value → World → Prop} (hlen : Nat.ble args.length 14 = true) (h : SemW Tryd.prog 14 (Tryd.f93.body.getD .skip) (retQ tbl [.tmp 2] R) (argEnv 0 args) w) : Cl Tryd.prog 93 args w R :=
  Cl.enter tblOk Tryd.call93 Tryd.func93 Tryd.ntmps93 rfl Tryd.results93 hlen h
abbrev f_internal_bytealg_IndexByteString : Nat := 94
theorem func_internal_bytealg_IndexByteString : Tryd.prog.funcs[94]? = some Tryd.f94 := Tryd.func94
abbrev f_internal_bytealg_hashStr_string : Nat := 95
theorem en_internal_bytealg_hashStr_string {args : List Value} {w : World} {R : Value → World → Prop} (hlen : Nat.ble args.length 39 = true) (h : SemW Tryd.prog 39 (Tryd.f95.body.getD .skip) (retQ tbl [.tmp 2, .tmp 3] R) (argEnv 0 args) w) : Cl Tryd.prog 95 args w R :=
  Cl.enter tblOk Tryd.call95 Tryd.func95 Tryd.ntmps95 rfl Tryd.results95 hlen h
abbrev f_runtime_boundsError_Error : Nat := 96
abbrev f_runtime_boundsError_RuntimeError : Nat := 97
abbrev f_runtime_errorString_Error : Nat := 98
abbrev f_runtime_errorString_RuntimeError : Nat := 99
abbrev f_runtime_plainError_Error : Nat := 100
abbrev f_runtime_plainError_RuntimeError : Nat := 101
abbrev f_runtime_errorAddressString_Error : Nat := 102
abbrev f_runtime_errorAddressString_RuntimeError : Nat := 103
abbrev f_runtime_TypeAssertionError_Error : Nat := 104
abbrev f_runtime_TypeAssertionError_RuntimeError : Nat := 105
abbrev f_runtime_PanicNilError_Error : Nat := 106
abbrev f_runtime_PanicNilError_RuntimeError : Nat := 107
abbrev f_internal_abi_Type_Align : Nat := 108
theorem func_internal_abi_Type_Align : Tryd.prog.funcs[108]? = some Tryd.f108 := Tryd.func108
abbrev f_internal_runtime_maps_unhashableTypeError_Error : Nat := 109
theorem func_internal_runtime_maps_unhashableTypeError_Error : Tryd.prog.funcs[109]? = some Tryd.f109 := Tryd.func109
abbrev f_internal_runtime_maps_unhashableTypeError_RuntimeError : Nat := 110
theorem func_internal_runtime_maps_unhashableTypeError_RuntimeError : Tryd.prog.funcs[110]? = some Tryd.f110 := Tryd.func110
abbrev f_strings_Builder_Reset : Nat := 111
theorem func_strings_Builder_Reset : Tryd.prog.funcs[111]? = some Tryd.f111 := Tryd.func111
abbrev f_internal_abi_Kind_String : Nat := 112
theorem func_internal_abi_Kind_String : Tryd.prog.funcs[112]? = some Tryd.f112 := Tryd.func112
abbrev f_var_s_door_gosem_cut_vars_holds_initialisers_alone_see_the_manifest_s_row_cutvarsword_look_11_test_files_too : Nat := 113
theorem func_var_s_door_gosem_cut_vars_holds_initialisers_alone_see_the_manifest_s_row_cutvarsword_look_11_test_files_too : Tryd.prog.funcs[113]? = some Tryd.f113 := Tryd.func113
abbrev f_var_s_door_internal_strconv_uint64pow10_is_laid_by_its_own_initialiser_plain_data_look_11 : Nat := 114
theorem func_var_s_door_internal_strconv_uint64pow10_is_laid_by_its_own_initialiser_plain_data_look_11 : Tryd.prog.funcs[114]? = some Tryd.f114 := Tryd.func114
abbrev f_var_s_door_math_bits_deBruijn32tab_is_laid_by_its_own_initialiser_plain_data_look_11 : Nat := 115
theorem func_var_s_door_math_bits_deBruijn32tab_is_laid_by_its_own_initialiser_plain_data_look_11 : Tryd.prog.funcs[115]? = some Tryd.f115 := Tryd.func115
abbrev f_var_s_door_math_bits_deBruijn64tab_is_laid_by_its_own_initialiser_plain_data_look_11 : Nat := 116
theorem func_var_s_door_math_bits_deBruijn64tab_is_laid_by_its_own_initialiser_plain_data_look_11 : Tryd.prog.funcs[116]? = some Tryd.f116 := Tryd.func116
abbrev f_var_s_door_the_look_of_gosem_cut_vars_went_over_the_folder_that_the_caller_named_as_the_repository_s_root_look_11 : Nat := 117
theorem func_var_s_door_the_look_of_gosem_cut_vars_went_over_the_folder_that_the_caller_named_as_the_repository_s_root_look_11 : Tryd.prog.funcs[117]? = some Tryd.f117 := Tryd.func117
abbrev f_var_s_door_unicode_utf8_acceptRanges_is_laid_by_its_own_initialiser_plain_data_look_11 : Nat := 118
theorem func_var_s_door_unicode_utf8_acceptRanges_is_laid_by_its_own_initialiser_plain_data_look_11 : Tryd.prog.funcs[118]? = some Tryd.f118 := Tryd.func118
abbrev f_var_s_door_unicode_utf8_first_is_laid_by_its_text_alone_pinned_1 : Nat := 119
theorem func_var_s_door_unicode_utf8_first_is_laid_by_its_text_alone_pinned_1 : Tryd.prog.funcs[119]? = some Tryd.f119 := Tryd.func119
end Go.Proofs.YtlghahalejgkfaaDoor
