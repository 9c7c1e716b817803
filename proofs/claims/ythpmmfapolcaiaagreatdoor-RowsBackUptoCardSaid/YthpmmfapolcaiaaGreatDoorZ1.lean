/- Texts of this claim, one behind the other. -/
import Derived.Test.YthpmmfapolcaiaaGreatDoorProg
import Derived.Test.YthpmmfapolcaiaaGreatDoorZ0
import Derived.Test.YthpmmfapolcaiaaGreatDoorRows
import Derived.WalkKit
import Derived.ProofKit
import Derived.OpenShut
import Derived.Carry
import Derived.SliceStrings
import Derived.JoinedCond
import Derived.Deep.Slices
import Derived.Laws.IdiomStrings
/- MADE BY PROGRAM (gen.py) out of this seat's translation: the types' table with its proof, the functions' and types' numbers under names, each function's way in. No statement of the seat is here. -/
namespace Go.Proofs.YthpmmfapolcaiaaGreatDoor
open Go Go.Eng Go.Proofs

def tbl : Tbl := [
  (2, ⟨.int .i64, 1, 8, .int .i64 0⟩),
  (3, ⟨.int .i64, 1, 8, .int .i64 0⟩),
  (4, ⟨.bool, 1, 1, .bool false⟩),
  (5, ⟨.int .u8, 1, 1, .int .u8 0⟩),
  (9, ⟨.str, 1, 16, .string ⟨⟨[]⟩⟩⟩),
  (21, ⟨.int .i32, 1, 4, .int .i32 0⟩),
  (22, ⟨.int .i64, 1, 8, .int .i64 0⟩),
  (23, ⟨.slice 3 1, 1, 24, .slice none 0 0⟩),
  (24, ⟨.arr 4 3 1, 4, 32, .agg ⟨[.int .i64 0, .int .i64 0, .int .i64 0, .int .i64 0]⟩⟩),
  (26, ⟨.struct [(0, 1), (1, 1), (2, 1)], 3, 16, .agg ⟨[.int .i64 0, .bool false, .bool false]⟩⟩),
  (28, ⟨.struct [(0, 1), (1, 1)], 2, 16, .agg ⟨[.int .i64 0, .int .u8 0]⟩⟩),
  (30, ⟨.struct [(0, 1), (1, 1), (2, 3), (5, 1), (6, 1), (7, 1), (8, 1), (9, 1), (10, 1), (11, 2)], 13, 88, .agg ⟨[.int .i64 0, .int .i64 0, .int .i64 0, .bool false, .bool false, .bool false, .bool false, .int .i64 0, .int .i64 0, .int .i64 0, .int .i64 0, .int .i64 0, .int .u8 0]⟩⟩),
  (32, ⟨.struct [(0, 1), (1, 1), (2, 4), (6, 1), (7, 13), (20, 1)], 21, 176, .agg ⟨[.int .i64 0, .slice none 0 0, .int .i64 0, .int .i64 0, .int .i64 0, .int .i64 0, .bool false, .int .i64 0, .int .i64 0, .int .i64 0, .bool false, .bool false, .bool false, .bool false, .int .i64 0, .int .i64 0, .int .i64 0, .int .i64 0, .int .i64 0, .int .u8 0, .string ⟨⟨[]⟩⟩]⟩⟩),
  (40, ⟨.slice 42 3, 1, 24, .slice none 0 0⟩),
  (42, ⟨.struct [(0, 1), (1, 1), (2, 1)], 3, 40, .agg ⟨[.string ⟨⟨[]⟩⟩, .bool false, .string ⟨⟨[]⟩⟩]⟩⟩),
  (43, ⟨.slice 110 2, 1, 24, .slice none 0 0⟩),
  (44, ⟨.slice 100 8, 1, 24, .slice none 0 0⟩),
  (45, ⟨.slice 30 13, 1, 24, .slice none 0 0⟩),
  (47, ⟨.struct [(0, 1), (1, 1), (2, 1)], 3, 72, .agg ⟨[.slice none 0 0, .slice none 0 0, .slice none 0 0]⟩⟩),
  (57, ⟨.int .u64, 1, 8, .int .u64 0⟩),
  (60, ⟨.slice 120 5, 1, 24, .slice none 0 0⟩),
  (62, ⟨.struct [(0, 1), (1, 1), (2, 1), (3, 1), (4, 1), (5, 1), (6, 3), (9, 1), (10, 1), (11, 2), (13, 1), (14, 4), (18, 1)], 19, 160, .agg ⟨[.int .i64 0, .int .i64 0, .int .i64 0, .int .i64 0, .int .i64 0, .int .i64 0, .int .i64 0, .bool false, .bool false, .bool false, .bool false, .int .i64 0, .int .u8 0, .slice none 0 0, .int .i64 0, .int .i64 0, .int .i64 0, .int .i64 0, .string ⟨⟨[]⟩⟩]⟩⟩),
  (65, ⟨.ptr 144, 1, 8, .pointer none⟩),
  (68, ⟨.struct [(0, 1)], 1, 8, .agg ⟨[.pointer none]⟩⟩),
  (71, ⟨.ptr 32, 1, 8, .pointer none⟩),
  (72, ⟨.ptr 9, 1, 8, .pointer none⟩),
  (76, ⟨.int .u64, 1, 8, .int .u64 0⟩),
  (81, ⟨.ptr 88, 1, 8, .pointer none⟩),
  (86, ⟨.ptr 159, 1, 8, .pointer none⟩),
  (88, ⟨.struct [(0, 1), (1, 1)], 2, 16, .agg ⟨[.pointer none, .bool false]⟩⟩),
  (89, ⟨.ptr 96, 1, 8, .pointer none⟩),
  (94, ⟨.ptr 161, 1, 8, .pointer none⟩),
  (96, ⟨.struct [(0, 1), (1, 1)], 2, 16, .agg ⟨[.pointer none, .int .i64 0]⟩⟩),
  (100, ⟨.struct [(0, 1), (1, 1), (2, 1), (3, 1), (4, 4)], 8, 64, .agg ⟨[.int .i64 0, .int .i64 0, .int .i64 0, .int .i64 0, .int .i64 0, .int .i64 0, .int .i64 0, .int .i64 0]⟩⟩),
  (104, ⟨.fn, 1, 8, .nilFunc⟩),
  (106, ⟨.ptr 47, 1, 8, .pointer none⟩),
  (110, ⟨.struct [(0, 1), (1, 1)], 2, 32, .agg ⟨[.int .i64 0, .slice none 0 0]⟩⟩),
  (120, ⟨.struct [(0, 1), (1, 1), (2, 1), (3, 1), (4, 1)], 5, 48, .agg ⟨[.int .i64 0, .int .i64 0, .int .i64 0, .bool false, .string ⟨⟨[]⟩⟩]⟩⟩),
  (122, ⟨.ptr 62, 1, 8, .pointer none⟩),
  (126, ⟨.slice 9 1, 1, 24, .slice none 0 0⟩),
  (127, ⟨.ptr 130, 1, 8, .pointer none⟩),
  (128, ⟨.slice 5 1, 1, 24, .slice none 0 0⟩),
  (130, ⟨.struct [(0, 1), (1, 1)], 2, 32, .agg ⟨[.pointer none, .slice none 0 0]⟩⟩),
  (132, ⟨.int .u32, 1, 4, .int .u32 0⟩),
  (134, ⟨.iface, 1, 16, .nilIface⟩),
  (142, ⟨.struct [(0, 1)], 1, 8, .agg ⟨[.int .i64 0]⟩⟩),
  (144, ⟨.struct [(0, 1), (1, 1)], 2, 32, .agg ⟨[.int .i64 0, .slice none 0 0]⟩⟩),
  (146, ⟨.iface, 1, 16, .nilIface⟩),
  (148, ⟨.ptr 3, 1, 8, .pointer none⟩),
  (151, ⟨.ptr 4, 1, 8, .pointer none⟩),
  (159, ⟨.struct [(0, 1)], 1, 16, .agg ⟨[.string ⟨⟨[]⟩⟩]⟩⟩),
  (161, ⟨.struct [(0, 1)], 1, 16, .agg ⟨[.string ⟨⟨[]⟩⟩]⟩⟩),
  (166, ⟨.arr 6 3 1, 6, 48, .agg ⟨[.int .i64 0, .int .i64 0, .int .i64 0, .int .i64 0, .int .i64 0, .int .i64 0]⟩⟩),
  (168, ⟨.slice 172 3, 1, 24, .slice none 0 0⟩),
  (172, ⟨.struct [(0, 1), (1, 1), (2, 1)], 3, 32, .agg ⟨[.int .i64 0, .int .i64 0, .string ⟨⟨[]⟩⟩]⟩⟩),
  (173, ⟨.ptr 175, 1, 8, .pointer none⟩),
  (175, ⟨.struct [(0, 1), (1, 1)], 2, 16, .agg ⟨[.pointer none, .bool false]⟩⟩),
  (180, ⟨.fn, 1, 8, .nilFunc⟩),
  (182, ⟨.fn, 1, 8, .nilFunc⟩),
  (184, ⟨.fn, 1, 8, .nilFunc⟩),
  (187, ⟨.arr 7 3 1, 7, 56, .agg ⟨[.int .i64 0, .int .i64 0, .int .i64 0, .int .i64 0, .int .i64 0, .int .i64 0, .int .i64 0]⟩⟩),
  (192, ⟨.struct [(0, 1)], 1, 8, .agg ⟨[.pointer none]⟩⟩),
  (196, ⟨.fn, 1, 8, .nilFunc⟩),
  (197, ⟨.slice 76 1, 1, 24, .slice none 0 0⟩),
  (201, ⟨.ptr 5, 1, 8, .pointer none⟩),
  (211, ⟨.slice 4 1, 1, 24, .slice none 0 0⟩),
  (216, ⟨.ptr 218, 1, 8, .pointer none⟩),
  (218, ⟨.struct [(0, 2)], 2, 32, .agg ⟨[.pointer none, .slice none 0 0]⟩⟩),
  (222, ⟨.slice 148 1, 1, 24, .slice none 0 0⟩),
  (226, ⟨.int .i64, 1, 8, .int .i64 0⟩),
  (229, ⟨.ptr 243, 1, 8, .pointer none⟩),
  (233, ⟨.arr 8 5 1, 8, 8, .agg ⟨[.int .u8 0, .int .u8 0, .int .u8 0, .int .u8 0, .int .u8 0, .int .u8 0, .int .u8 0, .int .u8 0]⟩⟩),
  (236, ⟨.arr 24 5 1, 24, 24, .agg ⟨[.int .u8 0, .int .u8 0, .int .u8 0, .int .u8 0, .int .u8 0, .int .u8 0, .int .u8 0, .int .u8 0, .int .u8 0, .int .u8 0, .int .u8 0, .int .u8 0, .int .u8 0, .int .u8 0, .int .u8 0, .int .u8 0, .int .u8 0, .int .u8 0, .int .u8 0, .int .u8 0, .int .u8 0, .int .u8 0, .int .u8 0, .int .u8 0]⟩⟩),
  (243, ⟨.struct [(0, 1), (1, 1), (2, 1)], 3, 48, .agg ⟨[.string ⟨⟨[]⟩⟩, .string ⟨⟨[]⟩⟩, .nilIface]⟩⟩),
  (247, ⟨.arr 20 76 1, 20, 160, .agg ⟨[.int .u64 0, .int .u64 0, .int .u64 0, .int .u64 0, .int .u64 0, .int .u64 0, .int .u64 0, .int .u64 0, .int .u64 0, .int .u64 0, .int .u64 0, .int .u64 0, .int .u64 0, .int .u64 0, .int .u64 0, .int .u64 0, .int .u64 0, .int .u64 0, .int .u64 0, .int .u64 0]⟩⟩),
  (248, ⟨.arr 65 5 1, 65, 65, .agg ⟨[.int .u8 0, .int .u8 0, .int .u8 0, .int .u8 0, .int .u8 0, .int .u8 0, .int .u8 0, .int .u8 0, .int .u8 0, .int .u8 0, .int .u8 0, .int .u8 0, .int .u8 0, .int .u8 0, .int .u8 0, .int .u8 0, .int .u8 0, .int .u8 0, .int .u8 0, .int .u8 0, .int .u8 0, .int .u8 0, .int .u8 0, .int .u8 0, .int .u8 0, .int .u8 0, .int .u8 0, .int .u8 0, .int .u8 0, .int .u8 0, .int .u8 0, .int .u8 0, .int .u8 0, .int .u8 0, .int .u8 0, .int .u8 0, .int .u8 0, .int .u8 0, .int .u8 0, .int .u8 0, .int .u8 0, .int .u8 0, .int .u8 0, .int .u8 0, .int .u8 0, .int .u8 0, .int .u8 0, .int .u8 0, .int .u8 0, .int .u8 0, .int .u8 0, .int .u8 0, .int .u8 0, .int .u8 0, .int .u8 0, .int .u8 0, .int .u8 0, .int .u8 0, .int .u8 0, .int .u8 0, .int .u8 0, .int .u8 0, .int .u8 0, .int .u8 0, .int .u8 0]⟩⟩),
  (253, ⟨.ptr 255, 1, 8, .pointer none⟩),
  (255, ⟨.struct [(0, 1)], 1, 16, .agg ⟨[.string ⟨⟨[]⟩⟩]⟩⟩),
  (261, ⟨.arr 32 5 1, 32, 32, .agg ⟨[.int .u8 0, .int .u8 0, .int .u8 0, .int .u8 0, .int .u8 0, .int .u8 0, .int .u8 0, .int .u8 0, .int .u8 0, .int .u8 0, .int .u8 0, .int .u8 0, .int .u8 0, .int .u8 0, .int .u8 0, .int .u8 0, .int .u8 0, .int .u8 0, .int .u8 0, .int .u8 0, .int .u8 0, .int .u8 0, .int .u8 0, .int .u8 0, .int .u8 0, .int .u8 0, .int .u8 0, .int .u8 0, .int .u8 0, .int .u8 0, .int .u8 0, .int .u8 0]⟩⟩),
  (262, ⟨.arr 64 5 1, 64, 64, .agg ⟨[.int .u8 0, .int .u8 0, .int .u8 0, .int .u8 0, .int .u8 0, .int .u8 0, .int .u8 0, .int .u8 0, .int .u8 0, .int .u8 0, .int .u8 0, .int .u8 0, .int .u8 0, .int .u8 0, .int .u8 0, .int .u8 0, .int .u8 0, .int .u8 0, .int .u8 0, .int .u8 0, .int .u8 0, .int .u8 0, .int .u8 0, .int .u8 0, .int .u8 0, .int .u8 0, .int .u8 0, .int .u8 0, .int .u8 0, .int .u8 0, .int .u8 0, .int .u8 0, .int .u8 0, .int .u8 0, .int .u8 0, .int .u8 0, .int .u8 0, .int .u8 0, .int .u8 0, .int .u8 0, .int .u8 0, .int .u8 0, .int .u8 0, .int .u8 0, .int .u8 0, .int .u8 0, .int .u8 0, .int .u8 0, .int .u8 0, .int .u8 0, .int .u8 0, .int .u8 0, .int .u8 0, .int .u8 0, .int .u8 0, .int .u8 0, .int .u8 0, .int .u8 0, .int .u8 0, .int .u8 0, .int .u8 0, .int .u8 0, .int .u8 0, .int .u8 0]⟩⟩),
  (264, ⟨.arr 256 5 1, 256, 256, .agg ⟨[.int .u8 0, .int .u8 0, .int .u8 0, .int .u8 0, .int .u8 0, .int .u8 0, .int .u8 0, .int .u8 0, .int .u8 0, .int .u8 0, .int .u8 0, .int .u8 0, .int .u8 0, .int .u8 0, .int .u8 0, .int .u8 0, .int .u8 0, .int .u8 0, .int .u8 0, .int .u8 0, .int .u8 0, .int .u8 0, .int .u8 0, .int .u8 0, .int .u8 0, .int .u8 0, .int .u8 0, .int .u8 0, .int .u8 0, .int .u8 0, .int .u8 0, .int .u8 0, .int .u8 0, .int .u8 0, .int .u8 0, .int .u8 0, .int .u8 0, .int .u8 0, .int .u8 0, .int .u8 0, .int .u8 0, .int .u8 0, .int .u8 0, .int .u8 0, .int .u8 0, .int .u8 0, .int .u8 0, .int .u8 0, .int .u8 0, .int .u8 0, .int .u8 0, .int .u8 0, .int .u8 0, .int .u8 0, .int .u8 0, .int .u8 0, .int .u8 0, .int .u8 0, .int .u8 0, .int .u8 0, .int .u8 0, .int .u8 0, .int .u8 0, .int .u8 0, .int .u8 0, .int .u8 0, .int .u8 0, .int .u8 0, .int .u8 0, .int .u8 0, .int .u8 0, .int .u8 0, .int .u8 0, .int .u8 0, .int .u8 0, .int .u8 0, .int .u8 0, .int .u8 0, .int .u8 0, .int .u8 0, .int .u8 0, .int .u8 0, .int .u8 0, .int .u8 0, .int .u8 0, .int .u8 0, .int .u8 0, .int .u8 0, .int .u8 0, .int .u8 0, .int .u8 0, .int .u8 0, .int .u8 0, .int .u8 0, .int .u8 0, .int .u8 0, .int .u8 0, .int .u8 0, .int .u8 0, .int .u8 0, .int .u8 0, .int .u8 0, .int .u8 0, .int .u8 0, .int .u8 0, .int .u8 0, .int .u8 0, .int .u8 0, .int .u8 0, .int .u8 0, .int .u8 0, .int .u8 0, .int .u8 0, .int .u8 0, .int .u8 0, .int .u8 0, .int .u8 0, .int .u8 0, .int .u8 0, .int .u8 0, .int .u8 0, .int .u8 0, .int .u8 0, .int .u8 0, .int .u8 0, .int .u8 0, .int .u8 0, .int .u8 0, .int .u8 0, .int .u8 0, .int .u8 0, .int .u8 0, .int .u8 0, .int .u8 0, .int .u8 0, .int .u8 0, .int .u8 0, .int .u8 0, .int .u8 0, .int .u8 0, .int .u8 0, .int .u8 0, .int .u8 0, .int .u8 0, .int .u8 0, .int .u8 0, .int .u8 0, .int .u8 0, .int .u8 0, .int .u8 0, .int .u8 0, .int .u8 0, .int .u8 0, .int .u8 0, .int .u8 0, .int .u8 0, .int .u8 0, .int .u8 0, .int .u8 0, .int .u8 0, .int .u8 0, .int .u8 0, .int .u8 0, .int .u8 0, .int .u8 0, .int .u8 0, .int .u8 0, .int .u8 0, .int .u8 0, .int .u8 0, .int .u8 0, .int .u8 0, .int .u8 0, .int .u8 0, .int .u8 0, .int .u8 0, .int .u8 0, .int .u8 0, .int .u8 0, .int .u8 0, .int .u8 0, .int .u8 0, .int .u8 0, .int .u8 0, .int .u8 0, .int .u8 0, .int .u8 0, .int .u8 0, .int .u8 0, .int .u8 0, .int .u8 0, .int .u8 0, .int .u8 0, .int .u8 0, .int .u8 0, .int .u8 0, .int .u8 0, .int .u8 0, .int .u8 0, .int .u8 0, .int .u8 0, .int .u8 0, .int .u8 0, .int .u8 0, .int .u8 0, .int .u8 0, .int .u8 0, .int .u8 0, .int .u8 0, .int .u8 0, .int .u8 0, .int .u8 0, .int .u8 0, .int .u8 0, .int .u8 0, .int .u8 0, .int .u8 0, .int .u8 0, .int .u8 0, .int .u8 0, .int .u8 0, .int .u8 0, .int .u8 0, .int .u8 0, .int .u8 0, .int .u8 0, .int .u8 0, .int .u8 0, .int .u8 0, .int .u8 0, .int .u8 0, .int .u8 0, .int .u8 0, .int .u8 0, .int .u8 0, .int .u8 0, .int .u8 0, .int .u8 0, .int .u8 0, .int .u8 0, .int .u8 0, .int .u8 0, .int .u8 0, .int .u8 0, .int .u8 0, .int .u8 0, .int .u8 0, .int .u8 0, .int .u8 0, .int .u8 0, .int .u8 0, .int .u8 0, .int .u8 0, .int .u8 0, .int .u8 0, .int .u8 0]⟩⟩),
  (266, ⟨.struct [(0, 1), (1, 1)], 2, 2, .agg ⟨[.int .u8 0, .int .u8 0]⟩⟩),
  (267, ⟨.arr 16 266 2, 32, 32, .agg ⟨[.int .u8 0, .int .u8 0, .int .u8 0, .int .u8 0, .int .u8 0, .int .u8 0, .int .u8 0, .int .u8 0, .int .u8 0, .int .u8 0, .int .u8 0, .int .u8 0, .int .u8 0, .int .u8 0, .int .u8 0, .int .u8 0, .int .u8 0, .int .u8 0, .int .u8 0, .int .u8 0, .int .u8 0, .int .u8 0, .int .u8 0, .int .u8 0, .int .u8 0, .int .u8 0, .int .u8 0, .int .u8 0, .int .u8 0, .int .u8 0, .int .u8 0, .int .u8 0]⟩⟩),
  (282, ⟨.slice 151 1, 1, 24, .slice none 0 0⟩)]
theorem tblOk : TOk Tryz.prog tbl :=
  .cons ⟨by kernel_rfl, Tryz.underlying2⟩ (
  .cons ⟨by kernel_rfl, Tryz.underlying3⟩ (
  .cons ⟨by kernel_rfl, Tryz.underlying4⟩ (
  .cons ⟨by kernel_rfl, Tryz.underlying5⟩ (
  .cons ⟨by kernel_rfl, Tryz.underlying9⟩ (
  .cons ⟨by kernel_rfl, Tryz.underlying21⟩ (
  .cons ⟨by kernel_rfl, Tryz.underlying22⟩ (
  .cons ⟨by kernel_rfl, ⟨Tryz.underlying23, by kernel_rfl⟩⟩ (
  .cons ⟨by kernel_rfl, ⟨Tryz.underlying24, by kernel_rfl⟩⟩ (
  .cons ⟨by kernel_rfl, ⟨_, Tryz.underlying26, by kernel_rfl⟩⟩ (
  .cons ⟨by kernel_rfl, ⟨_, Tryz.underlying28, by kernel_rfl⟩⟩ (
  .cons ⟨by kernel_rfl, ⟨_, Tryz.underlying30, by kernel_rfl⟩⟩ (
  .cons ⟨by kernel_rfl, ⟨_, Tryz.underlying32, by kernel_rfl⟩⟩ (
  .cons ⟨by kernel_rfl, ⟨Tryz.underlying40, by kernel_rfl⟩⟩ (
  .cons ⟨by kernel_rfl, ⟨_, Tryz.underlying42, by kernel_rfl⟩⟩ (
  .cons ⟨by kernel_rfl, ⟨Tryz.underlying43, by kernel_rfl⟩⟩ (
  .cons ⟨by kernel_rfl, ⟨Tryz.underlying44, by kernel_rfl⟩⟩ (
  .cons ⟨by kernel_rfl, ⟨Tryz.underlying45, by kernel_rfl⟩⟩ (
  .cons ⟨by kernel_rfl, ⟨_, Tryz.underlying47, by kernel_rfl⟩⟩ (
  .cons ⟨by kernel_rfl, Tryz.underlying57⟩ (
  .cons ⟨by kernel_rfl, ⟨Tryz.underlying60, by kernel_rfl⟩⟩ (
  .cons ⟨by kernel_rfl, ⟨_, Tryz.underlying62, by kernel_rfl⟩⟩ (
  .cons ⟨by kernel_rfl, Tryz.underlying65⟩ (
  .cons ⟨by kernel_rfl, ⟨_, Tryz.underlying68, by kernel_rfl⟩⟩ (
  .cons ⟨by kernel_rfl, Tryz.underlying71⟩ (
  .cons ⟨by kernel_rfl, Tryz.underlying72⟩ (
  .cons ⟨by kernel_rfl, Tryz.underlying76⟩ (
  .cons ⟨by kernel_rfl, Tryz.underlying81⟩ (
  .cons ⟨by kernel_rfl, Tryz.underlying86⟩ (
  .cons ⟨by kernel_rfl, ⟨_, Tryz.underlying88, by kernel_rfl⟩⟩ (
  .cons ⟨by kernel_rfl, Tryz.underlying89⟩ (
  .cons ⟨by kernel_rfl, Tryz.underlying94⟩ (
  .cons ⟨by kernel_rfl, ⟨_, Tryz.underlying96, by kernel_rfl⟩⟩ (
  .cons ⟨by kernel_rfl, ⟨_, Tryz.underlying100, by kernel_rfl⟩⟩ (
  .cons ⟨by kernel_rfl, ⟨_, _, _, Tryz.underlying104⟩⟩ (
  .cons ⟨by kernel_rfl, Tryz.underlying106⟩ (
  .cons ⟨by kernel_rfl, ⟨_, Tryz.underlying110, by kernel_rfl⟩⟩ (
  .cons ⟨by kernel_rfl, ⟨_, Tryz.underlying120, by kernel_rfl⟩⟩ (
  .cons ⟨by kernel_rfl, Tryz.underlying122⟩ (
  .cons ⟨by kernel_rfl, ⟨Tryz.underlying126, by kernel_rfl⟩⟩ (
  .cons ⟨by kernel_rfl, Tryz.underlying127⟩ (
  .cons ⟨by kernel_rfl, ⟨Tryz.underlying128, by kernel_rfl⟩⟩ (
  .cons ⟨by kernel_rfl, ⟨_, Tryz.underlying130, by kernel_rfl⟩⟩ (
  .cons ⟨by kernel_rfl, Tryz.underlying132⟩ (
  .cons ⟨by kernel_rfl, ⟨_, Tryz.underlying134⟩⟩ (
  .cons ⟨by kernel_rfl, ⟨_, Tryz.underlying142, by kernel_rfl⟩⟩ (
  .cons ⟨by kernel_rfl, ⟨_, Tryz.underlying144, by kernel_rfl⟩⟩ (
  .cons ⟨by kernel_rfl, ⟨_, Tryz.underlying146⟩⟩ (
  .cons ⟨by kernel_rfl, Tryz.underlying148⟩ (
  .cons ⟨by kernel_rfl, Tryz.underlying151⟩ (
  .cons ⟨by kernel_rfl, ⟨_, Tryz.underlying159, by kernel_rfl⟩⟩ (
  .cons ⟨by kernel_rfl, ⟨_, Tryz.underlying161, by kernel_rfl⟩⟩ (
  .cons ⟨by kernel_rfl, ⟨Tryz.underlying166, by kernel_rfl⟩⟩ (
  .cons ⟨by kernel_rfl, ⟨Tryz.underlying168, by kernel_rfl⟩⟩ (
  .cons ⟨by kernel_rfl, ⟨_, Tryz.underlying172, by kernel_rfl⟩⟩ (
  .cons ⟨by kernel_rfl, Tryz.underlying173⟩ (
  .cons ⟨by kernel_rfl, ⟨_, Tryz.underlying175, by kernel_rfl⟩⟩ (
  .cons ⟨by kernel_rfl, ⟨_, _, _, Tryz.underlying180⟩⟩ (
  .cons ⟨by kernel_rfl, ⟨_, _, _, Tryz.underlying182⟩⟩ (
  .cons ⟨by kernel_rfl, ⟨_, _, _, Tryz.underlying184⟩⟩ (
  .cons ⟨by kernel_rfl, ⟨Tryz.underlying187, by kernel_rfl⟩⟩ (
  .cons ⟨by kernel_rfl, ⟨_, Tryz.underlying192, by kernel_rfl⟩⟩ (
  .cons ⟨by kernel_rfl, ⟨_, _, _, Tryz.underlying196⟩⟩ (
  .cons ⟨by kernel_rfl, ⟨Tryz.underlying197, by kernel_rfl⟩⟩ (
  .cons ⟨by kernel_rfl, Tryz.underlying201⟩ (
  .cons ⟨by kernel_rfl, ⟨Tryz.underlying211, by kernel_rfl⟩⟩ (
  .cons ⟨by kernel_rfl, Tryz.underlying216⟩ (
  .cons ⟨by kernel_rfl, ⟨_, Tryz.underlying218, by kernel_rfl⟩⟩ (
  .cons ⟨by kernel_rfl, ⟨Tryz.underlying222, by kernel_rfl⟩⟩ (
  .cons ⟨by kernel_rfl, Tryz.underlying226⟩ (
  .cons ⟨by kernel_rfl, Tryz.underlying229⟩ (
  .cons ⟨by kernel_rfl, ⟨Tryz.underlying233, by kernel_rfl⟩⟩ (
  .cons ⟨by kernel_rfl, ⟨Tryz.underlying236, by kernel_rfl⟩⟩ (
  .cons ⟨by kernel_rfl, ⟨_, Tryz.underlying243, by kernel_rfl⟩⟩ (
  .cons ⟨by kernel_rfl, ⟨Tryz.underlying247, by kernel_rfl⟩⟩ (
  .cons ⟨by kernel_rfl, ⟨Tryz.underlying248, by kernel_rfl⟩⟩ (
  .cons ⟨by kernel_rfl, Tryz.underlying253⟩ (
  .cons ⟨by kernel_rfl, ⟨_, Tryz.underlying255, by kernel_rfl⟩⟩ (
  .cons ⟨by kernel_rfl, ⟨Tryz.underlying261, by kernel_rfl⟩⟩ (
  .cons ⟨by kernel_rfl, ⟨Tryz.underlying262, by kernel_rfl⟩⟩ (
  .cons ⟨by kernel_rfl, ⟨Tryz.underlying264, by kernel_rfl⟩⟩ (
  .cons ⟨by kernel_rfl, ⟨_, Tryz.underlying266, by kernel_rfl⟩⟩ (
  .cons ⟨by kernel_rfl, ⟨Tryz.underlying267, by kernel_rfl⟩⟩ (
  .cons ⟨by kernel_rfl, ⟨Tryz.underlying282, by kernel_rfl⟩⟩ (
  .nil))))))))))))))))))))))))))))))))))))))))))))))))))))))))))))))))))))))))))))))))))))
theorem mixed : Tryz.prog.follows .mixedOrders = true := by kernel_rfl
abbrev T_ : Nat := 0
abbrev T_int : Nat := 3
abbrev T_bool : Nat := 4
abbrev T_uint8 : Nat := 5
abbrev T_string : Nat := 9
abbrev T_int32 : Nat := 21
abbrev T_4_int : Nat := 24
abbrev T_api_Who : Nat := 26
abbrev T_api_Seat : Nat := 28
abbrev T_api_Pax : Nat := 30
abbrev T_api_Op : Nat := 42
abbrev T_api_State : Nat := 47
abbrev T_api_Flight : Nat := 100
abbrev T_api_Equip : Nat := 110
abbrev T_api_Row : Nat := 120
abbrev T_Ptr_strings_Builder : Nat := 127
abbrev T_Sl_uint8 : Nat := 128
abbrev T_strings_Builder : Nat := 130
abbrev T_pack_Writer : Nat := 144
abbrev T_pack_Reader : Nat := 159
abbrev T_api_Part : Nat := 172
abbrev T_rows_reader : Nat := 175
abbrev T_rows_writer : Nat := 192
abbrev T_Ptr_uint8 : Nat := 201
abbrev T_order_builder : Nat := 218
abbrev T_unsafe_Pointer : Nat := 223
abbrev f_tarmaclaw22_RowsBack : Nat := 5
theorem en_tarmaclaw22_RowsBack {args : List Value} {w : World} {R : Value → World → Prop} (hlen : Nat.ble args.length 89 = true) (h : SemW Tryz.prog 89 (Tryz.f5.body.getD .skip) (retQ tbl [.tmp 4] R) (argEnv 0 args) w) : Cl Tryz.prog 5 args w R :=
  Cl.enter tblOk Tryz.call5 Tryz.func5 Tryz.ntmps5 rfl Tryz.results5 hlen h
abbrev f_tarmaclaw22_lives : Nat := 12
theorem en_tarmaclaw22_lives {args : List Value} {w : World} {R : Value → World → Prop} (hlen : Nat.ble args.length 27 = true) (h : SemW Tryz.prog 27 (Tryz.f12.body.getD .skip) (retQ tbl [.tmp 0] R) (argEnv 0 args) w) : Cl Tryz.prog 12 args w R :=
  Cl.enter tblOk Tryz.call12 Tryz.func12 Tryz.ntmps12 rfl Tryz.results12 hlen h
abbrev f_rows_Load : Nat := 13
theorem en_rows_Load {args : List Value} {w : World} {R : Value → World → Prop} (hlen : Nat.ble args.length 28 = true) (h : SemW Tryz.prog 28 (Tryz.f13.body.getD .skip) (retQ tbl [.cell 2 47, .tmp 3] R) (argEnv 0 args) w) : Cl Tryz.prog 13 args w R :=
  Cl.enter tblOk Tryz.call13 Tryz.func13 Tryz.ntmps13 rfl Tryz.results13 hlen h
abbrev f_tarmacref21_Same : Nat := 15
theorem en_tarmacref21_Same {args : List Value} {w : World} {R : Value → World → Prop} (hlen : Nat.ble args.length 105 = true) (h : SemW Tryz.prog 105 (Tryz.f15.body.getD .skip) (retQ tbl [.tmp 4] R) (argEnv 0 args) w) : Cl Tryz.prog 15 args w R :=
  Cl.enter tblOk Tryz.call15 Tryz.func15 Tryz.ntmps15 rfl Tryz.results15 hlen h
abbrev f_rows_All : Nat := 17
theorem en_rows_All {args : List Value} {w : World} {R : Value → World → Prop} (hlen : Nat.ble args.length 66 = true) (h : SemW Tryz.prog 66 (Tryz.f17.body.getD .skip) (retQ tbl [.tmp 2, .tmp 3] R) (argEnv 0 args) w) : Cl Tryz.prog 17 args w R :=
  Cl.enter tblOk Tryz.call17 Tryz.func17 Tryz.ntmps17 rfl Tryz.results17 hlen h
abbrev f_tarmacref22_Form : Nat := 18
theorem en_tarmacref22_Form {args : List Value} {w : World} {R : Value → World → Prop} (hlen : Nat.ble args.length 92 = true) (h : SemW Tryz.prog 92 (Tryz.f18.body.getD .skip) (retQ tbl [.tmp 2] R) (argEnv 0 args) w) : Cl Tryz.prog 18 args w R :=
  Cl.enter tblOk Tryz.call18 Tryz.func18 Tryz.ntmps18 rfl Tryz.results18 hlen h
abbrev f_cabin_Label : Nat := 21
theorem en_cabin_Label {args : List Value} {w : World} {R : Value → World → Prop} (hlen : Nat.ble args.length 25 = true) (h : SemW Tryz.prog 25 (Tryz.f21.body.getD .skip) (retQ tbl [.tmp 2] R) (argEnv 0 args) w) : Cl Tryz.prog 21 args w R :=
  Cl.enter tblOk Tryz.call21 Tryz.func21 Tryz.ntmps21 rfl Tryz.results21 hlen h
abbrev f_pack_New : Nat := 22
theorem en_pack_New {args : List Value} {w : World} {R : Value → World → Prop} (hlen : Nat.ble args.length 3 = true) (h : SemW Tryz.prog 3 (Tryz.f22.body.getD .skip) (retQ tbl [.tmp 0] R) (argEnv 0 args) w) : Cl Tryz.prog 22 args w R :=
  Cl.enter tblOk Tryz.call22 Tryz.func22 Tryz.ntmps22 rfl Tryz.results22 hlen h
abbrev f_tarmacref13_Label : Nat := 26
theorem en_tarmacref13_Label {args : List Value} {w : World} {R : Value → World → Prop} (hlen : Nat.ble args.length 29 = true) (h : SemW Tryz.prog 29 (Tryz.f26.body.getD .skip) (retQ tbl [.tmp 2] R) (argEnv 0 args) w) : Cl Tryz.prog 26 args w R :=
  Cl.enter tblOk Tryz.call26 Tryz.func26 Tryz.ntmps26 rfl Tryz.results26 hlen h
abbrev f_tarmacref01_Num : Nat := 28
theorem en_tarmacref01_Num {args : List Value} {w : World} {R : Value → World → Prop} (hlen : Nat.ble args.length 21 = true) (h : SemW Tryz.prog 21 (Tryz.f28.body.getD .skip) (retQ tbl [.tmp 2] R) (argEnv 0 args) w) : Cl Tryz.prog 28 args w R :=
  Cl.enter tblOk Tryz.call28 Tryz.func28 Tryz.ntmps28 rfl Tryz.results28 hlen h
abbrev f_cabin_Parse : Nat := 34
theorem en_cabin_Parse {args : List Value} {w : World} {R : Value → World → Prop} (hlen : Nat.ble args.length 36 = true) (h : SemW Tryz.prog 36 (Tryz.f34.body.getD .skip) (retQ tbl [.cell 2 28, .tmp 3] R) (argEnv 0 args) w) : Cl Tryz.prog 34 args w R :=
  Cl.enter tblOk Tryz.call34 Tryz.func34 Tryz.ntmps34 rfl Tryz.results34 hlen h
abbrev f_pack_Reader_Done : Nat := 35
theorem en_pack_Reader_Done {args : List Value} {w : World} {R : Value → World → Prop} (hlen : Nat.ble args.length 8 = true) (h : SemW Tryz.prog 8 (Tryz.f35.body.getD .skip) (retQ tbl [.tmp 2] R) (argEnv 0 args) w) : Cl Tryz.prog 35 args w R :=
  Cl.enter tblOk Tryz.call35 Tryz.func35 Tryz.ntmps35 rfl Tryz.results35 hlen h
abbrev f_slices_Clone_api_Op_api_Op : Nat := 41
theorem en_slices_Clone_api_Op_api_Op {args : List Value} {w : World} {R : Value → World → Prop} (hlen : Nat.ble args.length 8 = true) (h : SemW Tryz.prog 8 (Tryz.f41.body.getD .skip) (retQ tbl [.tmp 2] R) (argEnv 0 args) w) : Cl Tryz.prog 41 args w R :=
  Cl.enter tblOk Tryz.call41 Tryz.func41 Tryz.ntmps41 rfl Tryz.results41 hlen h
abbrev f_slices_SortStableFunc_api_Op_api_Op : Nat := 42
theorem en_slices_SortStableFunc_api_Op_api_Op {args : List Value} {w : World} {R : Value → World → Prop} (hlen : Nat.ble args.length 9 = true) (h : SemW Tryz.prog 9 (Tryz.f42.body.getD .skip) (retQ tbl [] R) (argEnv 0 args) w) : Cl Tryz.prog 42 args w R :=
  Cl.enter tblOk Tryz.call42 Tryz.func42 Tryz.ntmps42 rfl Tryz.results42 hlen h
abbrev f_rows_Load_1 : Nat := 43
theorem en_rows_Load_1 {args : List Value} {w : World} {R : Value → World → Prop} (hlen : Nat.ble args.length 10 = true) (h : SemW Tryz.prog 10 (Tryz.f43.body.getD .skip) (retQ tbl [.tmp 4] R) (argEnv 0 args) w) : Cl Tryz.prog 43 args w R :=
  Cl.enter tblOk Tryz.call43 Tryz.func43 Tryz.ntmps43 rfl Tryz.results43 hlen h
abbrev f_strings_Compare : Nat := 44
theorem en_strings_Compare {args : List Value} {w : World} {R : Value → World → Prop} (hlen : Nat.ble args.length 8 = true) (h : SemW Tryz.prog 8 (Tryz.f44.body.getD .skip) (retQ tbl [.tmp 4] R) (argEnv 0 args) w) : Cl Tryz.prog 44 args w R :=
  Cl.enter tblOk Tryz.call44 Tryz.func44 Tryz.ntmps44 rfl Tryz.results44 hlen h
abbrev f_rows_record : Nat := 45
theorem en_rows_record {args : List Value} {w : World} {R : Value → World → Prop} (hlen : Nat.ble args.length 107 = true) (h : SemW Tryz.prog 107 (Tryz.f45.body.getD .skip) (retQ tbl [.tmp 4] R) (argEnv 0 args) w) : Cl Tryz.prog 45 args w R :=
  Cl.enter tblOk Tryz.call45 Tryz.func45 Tryz.ntmps45 rfl Tryz.results45 hlen h
abbrev f_rows_inForm : Nat := 46
theorem en_rows_inForm {args : List Value} {w : World} {R : Value → World → Prop} (hlen : Nat.ble args.length 36 = true) (h : SemW Tryz.prog 36 (Tryz.f46.body.getD .skip) (retQ tbl [.tmp 2] R) (argEnv 0 args) w) : Cl Tryz.prog 46 args w R :=
  Cl.enter tblOk Tryz.call46 Tryz.func46 Tryz.ntmps46 rfl Tryz.results46 hlen h
abbrev f_tarmacref13_SameRows : Nat := 50
theorem en_tarmacref13_SameRows {args : List Value} {w : World} {R : Value → World → Prop} (hlen : Nat.ble args.length 26 = true) (h : SemW Tryz.prog 26 (Tryz.f50.body.getD .skip) (retQ tbl [.tmp 4] R) (argEnv 0 args) w) : Cl Tryz.prog 50 args w R :=
  Cl.enter tblOk Tryz.call50 Tryz.func50 Tryz.ntmps50 rfl Tryz.results50 hlen h
abbrev f_rows_key : Nat := 51
theorem en_rows_key {args : List Value} {w : World} {R : Value → World → Prop} (hlen : Nat.ble args.length 19 = true) (h : SemW Tryz.prog 19 (Tryz.f51.body.getD .skip) (retQ tbl [.tmp 4] R) (argEnv 0 args) w) : Cl Tryz.prog 51 args w R :=
  Cl.enter tblOk Tryz.call51 Tryz.func51 Tryz.ntmps51 rfl Tryz.results51 hlen h
abbrev f_rows_equip : Nat := 52
theorem en_rows_equip {args : List Value} {w : World} {R : Value → World → Prop} (hlen : Nat.ble args.length 48 = true) (h : SemW Tryz.prog 48 (Tryz.f52.body.getD .skip) (retQ tbl [.tmp 2] R) (argEnv 0 args) w) : Cl Tryz.prog 52 args w R :=
  Cl.enter tblOk Tryz.call52 Tryz.func52 Tryz.ntmps52 rfl Tryz.results52 hlen h
abbrev f_rows_flight : Nat := 53
theorem en_rows_flight {args : List Value} {w : World} {R : Value → World → Prop} (hlen : Nat.ble args.length 24 = true) (h : SemW Tryz.prog 24 (Tryz.f53.body.getD .skip) (retQ tbl [.tmp 2] R) (argEnv 0 args) w) : Cl Tryz.prog 53 args w R :=
  Cl.enter tblOk Tryz.call53 Tryz.func53 Tryz.ntmps53 rfl Tryz.results53 hlen h
abbrev f_rows_pax : Nat := 54
theorem en_rows_pax {args : List Value} {w : World} {R : Value → World → Prop} (hlen : Nat.ble args.length 52 = true) (h : SemW Tryz.prog 52 (Tryz.f54.body.getD .skip) (retQ tbl [.tmp 2] R) (argEnv 0 args) w) : Cl Tryz.prog 54 args w R :=
  Cl.enter tblOk Tryz.call54 Tryz.func54 Tryz.ntmps54 rfl Tryz.results54 hlen h
abbrev f_pack_Writer_Num : Nat := 56
theorem en_pack_Writer_Num {args : List Value} {w : World} {R : Value → World → Prop} (hlen : Nat.ble args.length 28 = true) (h : SemW Tryz.prog 28 (Tryz.f56.body.getD .skip) (retQ tbl [] R) (argEnv 0 args) w) : Cl Tryz.prog 56 args w R :=
  Cl.enter tblOk Tryz.call56 Tryz.func56 Tryz.ntmps56 rfl Tryz.results56 hlen h
abbrev f_pack_Writer_Int : Nat := 57
theorem en_pack_Writer_Int {args : List Value} {w : World} {R : Value → World → Prop} (hlen : Nat.ble args.length 23 = true) (h : SemW Tryz.prog 23 (Tryz.f57.body.getD .skip) (retQ tbl [] R) (argEnv 0 args) w) : Cl Tryz.prog 57 args w R :=
  Cl.enter tblOk Tryz.call57 Tryz.func57 Tryz.ntmps57 rfl Tryz.results57 hlen h
abbrev f_strings_Builder_WriteString : Nat := 63
theorem en_strings_Builder_WriteString {args : List Value} {w : World} {R : Value → World → Prop} (hlen : Nat.ble args.length 19 = true) (h : SemW Tryz.prog 19 (Tryz.f63.body.getD .skip) (retQ tbl [.tmp 4, .tmp 5] R) (argEnv 0 args) w) : Cl Tryz.prog 63 args w R :=
  Cl.enter tblOk Tryz.call63 Tryz.func63 Tryz.ntmps63 rfl Tryz.results63 hlen h
abbrev f_strings_Builder_String : Nat := 65
theorem en_strings_Builder_String {args : List Value} {w : World} {R : Value → World → Prop} (hlen : Nat.ble args.length 14 = true) (h : SemW Tryz.prog 14 (Tryz.f65.body.getD .skip) (retQ tbl [.tmp 2] R) (argEnv 0 args) w) : Cl Tryz.prog 65 args w R :=
  Cl.enter tblOk Tryz.call65 Tryz.func65 Tryz.ntmps65 rfl Tryz.results65 hlen h
abbrev f_cabin_between : Nat := 66
theorem en_cabin_between {args : List Value} {w : World} {R : Value → World → Prop} (hlen : Nat.ble args.length 15 = true) (h : SemW Tryz.prog 15 (Tryz.f66.body.getD .skip) (retQ tbl [.tmp 6] R) (argEnv 0 args) w) : Cl Tryz.prog 66 args w R :=
  Cl.enter tblOk Tryz.call66 Tryz.func66 Tryz.ntmps66 rfl Tryz.results66 hlen h
abbrev f_strconv_Itoa : Nat := 67
theorem en_strconv_Itoa {args : List Value} {w : World} {R : Value → World → Prop} (hlen : Nat.ble args.length 5 = true) (h : SemW Tryz.prog 5 (Tryz.f67.body.getD .skip) (retQ tbl [.tmp 2] R) (argEnv 0 args) w) : Cl Tryz.prog 67 args w R :=
  Cl.enter tblOk Tryz.call67 Tryz.func67 Tryz.ntmps67 rfl Tryz.results67 hlen h
abbrev f_pack_Writer_Bytes : Nat := 68
theorem en_pack_Writer_Bytes {args : List Value} {w : World} {R : Value → World → Prop} (hlen : Nat.ble args.length 8 = true) (h : SemW Tryz.prog 8 (Tryz.f68.body.getD .skip) (retQ tbl [.tmp 2] R) (argEnv 0 args) w) : Cl Tryz.prog 68 args w R :=
  Cl.enter tblOk Tryz.call68 Tryz.func68 Tryz.ntmps68 rfl Tryz.results68 hlen h
abbrev f_tarmacref01_Int : Nat := 69
theorem en_tarmacref01_Int {args : List Value} {w : World} {R : Value → World → Prop} (hlen : Nat.ble args.length 6 = true) (h : SemW Tryz.prog 6 (Tryz.f69.body.getD .skip) (retQ tbl [.tmp 2] R) (argEnv 0 args) w) : Cl Tryz.prog 69 args w R :=
  Cl.enter tblOk Tryz.call69 Tryz.func69 Tryz.ntmps69 rfl Tryz.results69 hlen h
abbrev f_pack_Read : Nat := 74
theorem en_pack_Read {args : List Value} {w : World} {R : Value → World → Prop} (hlen : Nat.ble args.length 6 = true) (h : SemW Tryz.prog 6 (Tryz.f74.body.getD .skip) (retQ tbl [.tmp 2] R) (argEnv 0 args) w) : Cl Tryz.prog 74 args w R :=
  Cl.enter tblOk Tryz.call74 Tryz.func74 Tryz.ntmps74 rfl Tryz.results74 hlen h
abbrev f_strconv_Atoi : Nat := 75
abbrev f_slices_stableCmpFunc_api_Op : Nat := 80
theorem en_slices_stableCmpFunc_api_Op {args : List Value} {w : World} {R : Value → World → Prop} (hlen : Nat.ble args.length 63 = true) (h : SemW Tryz.prog 63 (Tryz.f80.body.getD .skip) (retQ tbl [] R) (argEnv 0 args) w) : Cl Tryz.prog 80 args w R :=
  Cl.enter tblOk Tryz.call80 Tryz.func80 Tryz.ntmps80 rfl Tryz.results80 hlen h
theorem en_internal_bytealg_CompareString {args : List Value} {w : World} {R : Value → World → Prop} (hlen : Nat.ble args.length 8 = true) (h : SemW Tryz.prog 8 (Tryz.f81.body.getD .skip) (retQ tbl [.tmp 4] R) (argEnv 0 args) w) : Cl Tryz.prog 81 args w R :=
  Cl.enter tblOk Tryz.call81 Tryz.func81 Tryz.ntmps81 rfl Tryz.results81 hlen h
abbrev f_order_Split : Nat := 82
theorem en_order_Split {args : List Value} {w : World} {R : Value → World → Prop} (hlen : Nat.ble args.length 36 = true) (h : SemW Tryz.prog 36 (Tryz.f82.body.getD .skip) (retQ tbl [.tmp 2, .tmp 3] R) (argEnv 0 args) w) : Cl Tryz.prog 82 args w R :=
  Cl.enter tblOk Tryz.call82 Tryz.func82 Tryz.ntmps82 rfl Tryz.results82 hlen h
abbrev f_rows_reader_equip : Nat := 83
theorem en_rows_reader_equip {args : List Value} {w : World} {R : Value → World → Prop} (hlen : Nat.ble args.length 45 = true) (h : SemW Tryz.prog 45 (Tryz.f83.body.getD .skip) (retQ tbl [.cell 4 110] R) (argEnv 0 args) w) : Cl Tryz.prog 83 args w R :=
  Cl.enter tblOk Tryz.call83 Tryz.func83 Tryz.ntmps83 rfl Tryz.results83 hlen h
abbrev f_rows_reader_flight : Nat := 84
theorem en_rows_reader_flight {args : List Value} {w : World} {R : Value → World → Prop} (hlen : Nat.ble args.length 25 = true) (h : SemW Tryz.prog 25 (Tryz.f84.body.getD .skip) (retQ tbl [.cell 4 100] R) (argEnv 0 args) w) : Cl Tryz.prog 84 args w R :=
  Cl.enter tblOk Tryz.call84 Tryz.func84 Tryz.ntmps84 rfl Tryz.results84 hlen h
abbrev f_rows_reader_pax : Nat := 85
theorem en_rows_reader_pax {args : List Value} {w : World} {R : Value → World → Prop} (hlen : Nat.ble args.length 73 = true) (h : SemW Tryz.prog 73 (Tryz.f85.body.getD .skip) (retQ tbl [.cell 4 30] R) (argEnv 0 args) w) : Cl Tryz.prog 85 args w R :=
  Cl.enter tblOk Tryz.call85 Tryz.func85 Tryz.ntmps85 rfl Tryz.results85 hlen h
abbrev f_rows_rising_api_Equip : Nat := 86
theorem en_rows_rising_api_Equip {args : List Value} {w : World} {R : Value → World → Prop} (hlen : Nat.ble args.length 26 = true) (h : SemW Tryz.prog 26 (Tryz.f86.body.getD .skip) (retQ tbl [.tmp 4] R) (argEnv 0 args) w) : Cl Tryz.prog 86 args w R :=
  Cl.enter tblOk Tryz.call86 Tryz.func86 Tryz.ntmps86 rfl Tryz.results86 hlen h
abbrev f_rows_inForm_1 : Nat := 87
theorem en_rows_inForm_1 {args : List Value} {w : World} {R : Value → World → Prop} (hlen : Nat.ble args.length 5 = true) (h : SemW Tryz.prog 5 (Tryz.f87.body.getD .skip) (retQ tbl [.tmp 2] R) (argEnv 0 args) w) : Cl Tryz.prog 87 args w R :=
  Cl.enter tblOk Tryz.call87 Tryz.func87 Tryz.ntmps87 rfl Tryz.results87 hlen h
abbrev f_rows_rising_api_Flight : Nat := 88
theorem en_rows_rising_api_Flight {args : List Value} {w : World} {R : Value → World → Prop} (hlen : Nat.ble args.length 26 = true) (h : SemW Tryz.prog 26 (Tryz.f88.body.getD .skip) (retQ tbl [.tmp 4] R) (argEnv 0 args) w) : Cl Tryz.prog 88 args w R :=
  Cl.enter tblOk Tryz.call88 Tryz.func88 Tryz.ntmps88 rfl Tryz.results88 hlen h
abbrev f_rows_inForm_2 : Nat := 89
theorem en_rows_inForm_2 {args : List Value} {w : World} {R : Value → World → Prop} (hlen : Nat.ble args.length 5 = true) (h : SemW Tryz.prog 5 (Tryz.f89.body.getD .skip) (retQ tbl [.tmp 2] R) (argEnv 0 args) w) : Cl Tryz.prog 89 args w R :=
  Cl.enter tblOk Tryz.call89 Tryz.func89 Tryz.ntmps89 rfl Tryz.results89 hlen h
abbrev f_rows_rising_api_Pax : Nat := 90
theorem en_rows_rising_api_Pax {args : List Value} {w : World} {R : Value → World → Prop} (hlen : Nat.ble args.length 26 = true) (h : SemW Tryz.prog 26 (Tryz.f90.body.getD .skip) (retQ tbl [.tmp 4] R) (argEnv 0 args) w) : Cl Tryz.prog 90 args w R :=
  Cl.enter tblOk Tryz.call90 Tryz.func90 Tryz.ntmps90 rfl Tryz.results90 hlen h
abbrev f_rows_inForm_3 : Nat := 91
theorem en_rows_inForm_3 {args : List Value} {w : World} {R : Value → World → Prop} (hlen : Nat.ble args.length 5 = true) (h : SemW Tryz.prog 5 (Tryz.f91.body.getD .skip) (retQ tbl [.tmp 2] R) (argEnv 0 args) w) : Cl Tryz.prog 91 args w R :=
  Cl.enter tblOk Tryz.call91 Tryz.func91 Tryz.ntmps91 rfl Tryz.results91 hlen h
abbrev f_order_Key : Nat := 97
theorem en_order_Key {args : List Value} {w : World} {R : Value → World → Prop} (hlen : Nat.ble args.length 46 = true) (h : SemW Tryz.prog 46 (Tryz.f97.body.getD .skip) (retQ tbl [.tmp 2, .tmp 3] R) (argEnv 0 args) w) : Cl Tryz.prog 97 args w R :=
  Cl.enter tblOk Tryz.call97 Tryz.func97 Tryz.ntmps97 rfl Tryz.results97 hlen h
abbrev f_order_Text : Nat := 98
theorem en_order_Text {args : List Value} {w : World} {R : Value → World → Prop} (hlen : Nat.ble args.length 22 = true) (h : SemW Tryz.prog 22 (Tryz.f98.body.getD .skip) (retQ tbl [.tmp 2] R) (argEnv 0 args) w) : Cl Tryz.prog 98 args w R :=
  Cl.enter tblOk Tryz.call98 Tryz.func98 Tryz.ntmps98 rfl Tryz.results98 hlen h
abbrev f_order_Int : Nat := 99
theorem en_order_Int {args : List Value} {w : World} {R : Value → World → Prop} (hlen : Nat.ble args.length 22 = true) (h : SemW Tryz.prog 22 (Tryz.f99.body.getD .skip) (retQ tbl [.tmp 2] R) (argEnv 0 args) w) : Cl Tryz.prog 99 args w R :=
  Cl.enter tblOk Tryz.call99 Tryz.func99 Tryz.ntmps99 rfl Tryz.results99 hlen h
abbrev f_rows_writer_marks : Nat := 100
theorem en_rows_writer_marks {args : List Value} {w : World} {R : Value → World → Prop} (hlen : Nat.ble args.length 26 = true) (h : SemW Tryz.prog 26 (Tryz.f100.body.getD .skip) (retQ tbl [] R) (argEnv 0 args) w) : Cl Tryz.prog 100 args w R :=
  Cl.enter tblOk Tryz.call100 Tryz.func100 Tryz.ntmps100 rfl Tryz.results100 hlen h
abbrev f_pack_Writer_Text : Nat := 101
theorem en_pack_Writer_Text {args : List Value} {w : World} {R : Value → World → Prop} (hlen : Nat.ble args.length 23 = true) (h : SemW Tryz.prog 23 (Tryz.f101.body.getD .skip) (retQ tbl [] R) (argEnv 0 args) w) : Cl Tryz.prog 101 args w R :=
  Cl.enter tblOk Tryz.call101 Tryz.func101 Tryz.ntmps101 rfl Tryz.results101 hlen h
abbrev f_pack_Writer_add : Nat := 104
theorem en_pack_Writer_add {args : List Value} {w : World} {R : Value → World → Prop} (hlen : Nat.ble args.length 24 = true) (h : SemW Tryz.prog 24 (Tryz.f104.body.getD .skip) (retQ tbl [] R) (argEnv 0 args) w) : Cl Tryz.prog 104 args w R :=
  Cl.enter tblOk Tryz.call104 Tryz.func104 Tryz.ntmps104 rfl Tryz.results104 hlen h
abbrev f_strings_Builder_copyCheck : Nat := 108
theorem en_strings_Builder_copyCheck {args : List Value} {w : World} {R : Value → World → Prop} (hlen : Nat.ble args.length 20 = true) (h : SemW Tryz.prog 20 (Tryz.f108.body.getD .skip) (retQ tbl [] R) (argEnv 0 args) w) : Cl Tryz.prog 108 args w R :=
  Cl.enter tblOk Tryz.call108 Tryz.func108 Tryz.ntmps108 rfl Tryz.results108 hlen h
theorem en_internal_strconv_Itoa {args : List Value} {w : World} {R : Value → World → Prop} (hlen : Nat.ble args.length 5 = true) (h : SemW Tryz.prog 5 (Tryz.f109.body.getD .skip) (retQ tbl [.tmp 2] R) (argEnv 0 args) w) : Cl Tryz.prog 109 args w R :=
  Cl.enter tblOk Tryz.call109 Tryz.func109 Tryz.ntmps109 rfl Tryz.results109 hlen h
abbrev f_tarmacref01_Fold : Nat := 110
theorem en_tarmacref01_Fold {args : List Value} {w : World} {R : Value → World → Prop} (hlen : Nat.ble args.length 14 = true) (h : SemW Tryz.prog 14 (Tryz.f110.body.getD .skip) (retQ tbl [.tmp 2] R) (argEnv 0 args) w) : Cl Tryz.prog 110 args w R :=
  Cl.enter tblOk Tryz.call110 Tryz.func110 Tryz.ntmps110 rfl Tryz.results110 hlen h
abbrev f_slices_insertionSortCmpFunc_api_Op : Nat := 116
theorem en_slices_insertionSortCmpFunc_api_Op {args : List Value} {w : World} {R : Value → World → Prop} (hlen : Nat.ble args.length 53 = true) (h : SemW Tryz.prog 53 (Tryz.f116.body.getD .skip) (retQ tbl [] R) (argEnv 0 args) w) : Cl Tryz.prog 116 args w R :=
  Cl.enter tblOk Tryz.call116 Tryz.func116 Tryz.ntmps116 rfl Tryz.results116 hlen h
abbrev f_slices_symMergeCmpFunc_api_Op : Nat := 117
theorem en_slices_symMergeCmpFunc_api_Op {args : List Value} {w : World} {R : Value → World → Prop} (hlen : Nat.ble args.length 220 = true) (h : SemW Tryz.prog 220 (Tryz.f117.body.getD .skip) (retQ tbl [] R) (argEnv 0 args) w) : Cl Tryz.prog 117 args w R :=
  Cl.enter tblOk Tryz.call117 Tryz.func117 Tryz.ntmps117 rfl Tryz.results117 hlen h
abbrev f_internal_bytealg_abigen_runtime_cmpstring : Nat := 118
theorem func_internal_bytealg_abigen_runtime_cmpstring : Tryz.prog.funcs[118]? = some Tryz.f118 := Tryz.func118
abbrev f_order_number : Nat := 119
theorem en_order_number {args : List Value} {w : World} {R : Value → World → Prop} (hlen : Nat.ble args.length 28 = true) (h : SemW Tryz.prog 28 (Tryz.f119.body.getD .skip) (retQ tbl [.cell 2 172, .tmp 3, .tmp 4] R) (argEnv 0 args) w) : Cl Tryz.prog 119 args w R :=
  Cl.enter tblOk Tryz.call119 Tryz.func119 Tryz.ntmps119 rfl Tryz.results119 hlen h
abbrev f_order_text : Nat := 120
theorem en_order_text {args : List Value} {w : World} {R : Value → World → Prop} (hlen : Nat.ble args.length 52 = true) (h : SemW Tryz.prog 52 (Tryz.f120.body.getD .skip) (retQ tbl [.cell 2 172, .tmp 3, .tmp 4] R) (argEnv 0 args) w) : Cl Tryz.prog 120 args w R :=
  Cl.enter tblOk Tryz.call120 Tryz.func120 Tryz.ntmps120 rfl Tryz.results120 hlen h
abbrev f_rows_reader_num : Nat := 121
theorem en_rows_reader_num {args : List Value} {w : World} {R : Value → World → Prop} (hlen : Nat.ble args.length 25 = true) (h : SemW Tryz.prog 25 (Tryz.f121.body.getD .skip) (retQ tbl [.tmp 2] R) (argEnv 0 args) w) : Cl Tryz.prog 121 args w R :=
  Cl.enter tblOk Tryz.call121 Tryz.func121 Tryz.ntmps121 rfl Tryz.results121 hlen h
abbrev f_rows_reader_int : Nat := 122
theorem en_rows_reader_int {args : List Value} {w : World} {R : Value → World → Prop} (hlen : Nat.ble args.length 25 = true) (h : SemW Tryz.prog 25 (Tryz.f122.body.getD .skip) (retQ tbl [.tmp 2] R) (argEnv 0 args) w) : Cl Tryz.prog 122 args w R :=
  Cl.enter tblOk Tryz.call122 Tryz.func122 Tryz.ntmps122 rfl Tryz.results122 hlen h
abbrev f_rows_reader_marks : Nat := 123
theorem en_rows_reader_marks {args : List Value} {w : World} {R : Value → World → Prop} (hlen : Nat.ble args.length 39 = true) (h : SemW Tryz.prog 39 (Tryz.f123.body.getD .skip) (retQ tbl [.tmp 4] R) (argEnv 0 args) w) : Cl Tryz.prog 123 args w R :=
  Cl.enter tblOk Tryz.call123 Tryz.func123 Tryz.ntmps123 rfl Tryz.results123 hlen h
abbrev f_rows_reader_text : Nat := 124
theorem en_rows_reader_text {args : List Value} {w : World} {R : Value → World → Prop} (hlen : Nat.ble args.length 25 = true) (h : SemW Tryz.prog 25 (Tryz.f124.body.getD .skip) (retQ tbl [.tmp 2] R) (argEnv 0 args) w) : Cl Tryz.prog 124 args w R :=
  Cl.enter tblOk Tryz.call124 Tryz.func124 Tryz.ntmps124 rfl Tryz.results124 hlen h
abbrev f_order_builder_number : Nat := 127
theorem en_order_builder_number {args : List Value} {w : World} {R : Value → World → Prop} (hlen : Nat.ble args.length 26 = true) (h : SemW Tryz.prog 26 (Tryz.f127.body.getD .skip) (retQ tbl [] R) (argEnv 0 args) w) : Cl Tryz.prog 127 args w R :=
  Cl.enter tblOk Tryz.call127 Tryz.func127 Tryz.ntmps127 rfl Tryz.results127 hlen h
abbrev f_order_builder_text : Nat := 128
theorem en_order_builder_text {args : List Value} {w : World} {R : Value → World → Prop} (hlen : Nat.ble args.length 18 = true) (h : SemW Tryz.prog 18 (Tryz.f128.body.getD .skip) (retQ tbl [] R) (argEnv 0 args) w) : Cl Tryz.prog 128 args w R :=
  Cl.enter tblOk Tryz.call128 Tryz.func128 Tryz.ntmps128 rfl Tryz.results128 hlen h
abbrev f_pack_Reader_Num : Nat := 130
theorem en_pack_Reader_Num {args : List Value} {w : World} {R : Value → World → Prop} (hlen : Nat.ble args.length 59 = true) (h : SemW Tryz.prog 59 (Tryz.f130.body.getD .skip) (retQ tbl [.tmp 2, .tmp 3] R) (argEnv 0 args) w) : Cl Tryz.prog 130 args w R :=
  Cl.enter tblOk Tryz.call130 Tryz.func130 Tryz.ntmps130 rfl Tryz.results130 hlen h
abbrev f_pack_Reader_Int : Nat := 131
theorem en_pack_Reader_Int {args : List Value} {w : World} {R : Value → World → Prop} (hlen : Nat.ble args.length 20 = true) (h : SemW Tryz.prog 20 (Tryz.f131.body.getD .skip) (retQ tbl [.tmp 2, .tmp 3] R) (argEnv 0 args) w) : Cl Tryz.prog 131 args w R :=
  Cl.enter tblOk Tryz.call131 Tryz.func131 Tryz.ntmps131 rfl Tryz.results131 hlen h
abbrev f_internal_abi_NoEscape : Nat := 132
theorem func_internal_abi_NoEscape : Tryz.prog.funcs[132]? = some Tryz.f132 := Tryz.func132
theorem en_internal_strconv_FormatInt {args : List Value} {w : World} {R : Value → World → Prop} (hlen : Nat.ble args.length 54 = true) (h : SemW Tryz.prog 54 (Tryz.f133.body.getD .skip) (retQ tbl [.tmp 4] R) (argEnv 0 args) w) : Cl Tryz.prog 133 args w R :=
  Cl.enter tblOk Tryz.call133 Tryz.func133 Tryz.ntmps133 rfl Tryz.results133 hlen h
abbrev f_slices_rotateCmpFunc_api_Op : Nat := 141
theorem en_slices_rotateCmpFunc_api_Op {args : List Value} {w : World} {R : Value → World → Prop} (hlen : Nat.ble args.length 58 = true) (h : SemW Tryz.prog 58 (Tryz.f141.body.getD .skip) (retQ tbl [] R) (argEnv 0 args) w) : Cl Tryz.prog 141 args w R :=
  Cl.enter tblOk Tryz.call141 Tryz.func141 Tryz.ntmps141 rfl Tryz.results141 hlen h
abbrev f_pack_Reader_Text : Nat := 142
theorem en_pack_Reader_Text {args : List Value} {w : World} {R : Value → World → Prop} (hlen : Nat.ble args.length 49 = true) (h : SemW Tryz.prog 49 (Tryz.f142.body.getD .skip) (retQ tbl [.tmp 2, .tmp 3] R) (argEnv 0 args) w) : Cl Tryz.prog 142 args w R :=
  Cl.enter tblOk Tryz.call142 Tryz.func142 Tryz.ntmps142 rfl Tryz.results142 hlen h
abbrev f_strings_Builder_WriteByte : Nat := 144
theorem en_strings_Builder_WriteByte {args : List Value} {w : World} {R : Value → World → Prop} (hlen : Nat.ble args.length 17 = true) (h : SemW Tryz.prog 17 (Tryz.f144.body.getD .skip) (retQ tbl [.tmp 4] R) (argEnv 0 args) w) : Cl Tryz.prog 144 args w R :=
  Cl.enter tblOk Tryz.call144 Tryz.func144 Tryz.ntmps144 rfl Tryz.results144 hlen h
abbrev f_strings_ReplaceAll : Nat := 145
theorem en_strings_ReplaceAll {args : List Value} {w : World} {R : Value → World → Prop} (hlen : Nat.ble args.length 11 = true) (h : SemW Tryz.prog 11 (Tryz.f145.body.getD .skip) (retQ tbl [.tmp 6] R) (argEnv 0 args) w) : Cl Tryz.prog 145 args w R :=
  Cl.enter tblOk Tryz.call145 Tryz.func145 Tryz.ntmps145 rfl Tryz.results145 hlen h
abbrev f_internal_strconv_small : Nat := 146
theorem en_internal_strconv_small {args : List Value} {w : World} {R : Value → World → Prop} (hlen : Nat.ble args.length 15 = true) (h : SemW Tryz.prog 15 (Tryz.f146.body.getD .skip) (retQ tbl [.tmp 2] R) (argEnv 0 args) w) : Cl Tryz.prog 146 args w R :=
  Cl.enter tblOk Tryz.call146 Tryz.func146 Tryz.ntmps146 rfl Tryz.results146 hlen h
abbrev f_slices_swapRangeCmpFunc_api_Op : Nat := 153
theorem en_slices_swapRangeCmpFunc_api_Op {args : List Value} {w : World} {R : Value → World → Prop} (hlen : Nat.ble args.length 38 = true) (h : SemW Tryz.prog 38 (Tryz.f153.body.getD .skip) (retQ tbl [] R) (argEnv 0 args) w) : Cl Tryz.prog 153 args w R :=
  Cl.enter tblOk Tryz.call153 Tryz.func153 Tryz.ntmps153 rfl Tryz.results153 hlen h
theorem en_strings_Replace {args : List Value} {w : World} {R : Value → World → Prop} (hlen : Nat.ble args.length 104 = true) (h : SemW Tryz.prog 104 (Tryz.f154.body.getD .skip) (retQ tbl [.tmp 8] R) (argEnv 0 args) w) : Cl Tryz.prog 154 args w R :=
  Cl.enter tblOk Tryz.call154 Tryz.func154 Tryz.ntmps154 rfl Tryz.results154 hlen h
theorem en_strings_Count {args : List Value} {w : World} {R : Value → World → Prop} (hlen : Nat.ble args.length 34 = true) (h : SemW Tryz.prog 34 (Tryz.f162.body.getD .skip) (retQ tbl [.tmp 4] R) (argEnv 0 args) w) : Cl Tryz.prog 162 args w R :=
  Cl.enter tblOk Tryz.call162 Tryz.func162 Tryz.ntmps162 rfl Tryz.results162 hlen h
abbrev f_internal_bytealg_CountString : Nat := 169
theorem func_internal_bytealg_CountString : Tryz.prog.funcs[169]? = some Tryz.f169 := Tryz.func169
end Go.Proofs.YthpmmfapolcaiaaGreatDoor

/- From a contract (Cl) to the statement: arguments opened, post shut. -/
namespace Go.Proofs.YthpmmfapolcaiaaGreatDoor
open Go Go.Eng Go.Proofs
open Go.ChangeShapes Go.WideShapes Go.ChangeAt Go.RowKit

theorem ownTry : ownKnob Tryz.prog.godebug = none := by kernel_rfl
theorem laidTry : laidOutB Tryz.prog = true := by kernel_rfl
theorem calls_of_cl {P : Program} {f : FuncId} {args : List Value} {w : World} {R : Value → World → Prop} (hc : ∀ (args : Array Value) (w : World), (callFunc f args).run P w = .ok (.enter f args) w)
    (h : Cl P f args w R) : Calls P f ⟨args⟩ w fun e w' => ∃ v, e = .returned v ∧ R v w' := by
  rcases h with ⟨_, h⟩ | ⟨v, w', h, _⟩
  · exact h
  · rw [hc] at h; cases h
theorem St.below {w w' : World} (h : St w [] [] w') : Below w.heap.size w w' := ⟨h.os, h.tape, h.output, h.size, fun k hk => h.old k hk (by simp)⟩
theorem trodAll_below {H : Type} {enc : TypeId × Value → H} {P : Program} (hl : laidOutB P = true) {W W' : World} (hb : Below W.heap.size W W') : ∀ {ts : List TypeId} {vs : List Value} {ds : List (DataW H)} {ps : List MemPlace},
    (ts.all fun t => P.readableRec t && decide (t < P.types.size)) = true → (∀ x ∈ ps, x.block < W.heap.size) → DataW.TrodAll enc P W 0 (fun _ => true) true ts vs ds ps →
    DataW.TrodAll enc P W' 0 (fun b => decide (b < W.heap.size)) true ts vs ds ps
  | [], [], [], _, _, _, h => h
  | t :: ts, v :: vs, d :: ds, ps, ht, hlt, ⟨p, q, h1, h2, e⟩ => by
    subst e
    simp only [List.all_cons, Bool.and_eq_true, decide_eq_true_eq] at ht
    exact ⟨p, q, Below.trod hl ht.1.1 ht.1.2 h1 hb (fun x hx => hlt x (by simp [hx])), trodAll_below hl hb (by simpa using ht.2) (fun x hx => hlt x (by simp [hx])) h2, rfl⟩
  | [], [], _ :: _, _, _, _, h => h.elim
  | [], _ :: _, _, _, _, _, h => h.elim
  | _ :: _, [], _, _, _, _, h => h.elim
  | _ :: _, _ :: _, [], _, _, _, h => h.elim

theorem post_true {H : Type} {enc : TypeId × Value → H} {P : Program} {f : Func} {s : ChangeSpec} {W W' : World} {args : Array Value} {ds gs : List (DataW H)} {before : List MemPlace} (hl : laidOutB P = true)
    (hts : (f.params.toList.all fun t => P.readableRec t && decide (t < P.types.size)) = true) {tb : TypeId} (hrt : f.resultTypes = #[tb]) (hb : P.underlying tb = some .bool)
    (hW : DataW.Whole enc P f.params.toList s.vars false W args.toList ds gs before) (hv : s.vars = []) (hfn : gs = [] → s.fn H (ds ++ gs) = { results := [.lit (.bool true)], args := ds }) (hst : St W [] [] W') :
    s.post enc P f false true false false W args (.bool true) W' := by
  have hW' := hW
  obtain ⟨p, q, hA, hV, rfl, _, _⟩ := hW
  rw [hv] at hV
  obtain ⟨rfl, rfl⟩ := trodVars_none hV
  have hlt : ∀ x ∈ p, x.block < W.heap.size := fun x hx => by have := hW'.lt x (by simp [hx]); simpa using this
  refine ⟨ds, [], _, [], p, [], hW', ?_, ?_, ?_, (St.below hst).frame _, fun h => by cases h⟩
  · rw [hfn rfl, hrt]
    exact trodAll_mk1 (shut_bool hb _)
  · rw [hfn rfl]
    exact trodAll_below hl (St.below hst) hts hlt hA
  · rw [hfn rfl, hv]
    rfl

theorem Str_of (s : ByteArray) : Value.string s = Str s.data.toList := by
  cases s; rfl
theorem bulk_strs {H : Type} : ∀ ss : List ByteArray, Rows.uptoBulkAll (strs (H := H) ss) = sumLen (ss.map (·.data.toList)) + ss.length
  | [] => rfl
  | s :: r => by
    have ih := bulk_strs (H := H) r
    simp only [strs, sumLen, List.map_cons, List.sum_cons, List.length_cons, Rows.uptoBulkAll, Rows.uptoBulk] at ih ⊢
    omega
theorem open_strsA {H : Type} {enc : TypeId × Value → H} {P : Program} {W : World} {r : Reach} {b0 : Nat} {t e : TypeId} {v : Value} {d : DataW H} {p : List MemPlace} (ht : P.underlying t = some (.slice e)) (he : P.underlying e = some .string) (hc : P.cellsOf e = 1)
    (hval : Value.okWide P W r b0 t v) (hd : DataW.Trod enc P W 0 (fun _ => true) true t v d p) :
    ∃ (a : Option Addr) (cap : Nat) (ps : List Bytes), v = .slice a ps.length cap ∧ ps.length ≤ cap ∧ cap ≤ maxLen ∧ Arr W [] a (ps.map Str) ∧ sumLen ps + cap + 1 ≤ Rows.uptoBulk d ∧ (∀ x ∈ ps, x.length ≤ maxLen) := by
  obtain ⟨a0, len, cap, rfl⟩ := okWide_slice ht hval
  obtain ⟨fuel, hf⟩ := hd
  rcases open_strings ht he hc hf with ⟨hcs, hx⟩ | ⟨a, len', cap', ss, hcs, _, hl, hm, hz, hx, hcell, hsz⟩
  · simp [Value.cells] at hcs
    obtain ⟨rfl, rfl, rfl⟩ := hcs
    simp only [Prod.mk.injEq] at hx
    obtain ⟨rfl, rfl⟩ := hx
    exact ⟨none, 0, [], rfl, Nat.le_refl _, by decide, Arr.nil _ _ _, by simp [sumLen, Rows.uptoBulk], by simp⟩
  · simp [Value.cells] at hcs
    obtain ⟨rfl, rfl, rfl⟩ := hcs
    simp only [Prod.mk.injEq] at hx
    obtain ⟨rfl, rfl⟩ := hx
    simp only [if_true] at hz
    have hlen : ((ss.take len).map (·.data.toList)).length = len := by simp; omega
    refine ⟨some a, cap, (ss.take len).map (·.data.toList), by rw [hlen], by rw [hlen]; exact hl, hm, ?_, ?_, ?_⟩
    · intro j x hj
      have hjl : j < len := by
        have := (List.getElem?_eq_some_iff.1 hj).1
        simp at this; omega
      have hcj := hcell j (by omega)
      obtain ⟨b, off, spot⟩ := a
      have hspot : spot = none := by simpa [Addr.add] using World.cell?_spot (hcell 0 (by omega))
      subst hspot
      refine ⟨b, off, rfl, by simp, ?_⟩
      rw [add_plain] at hcj
      rw [hcj]
      have : x = Str (ss.getD j ByteArray.empty).data.toList := by
        have hjs : j < ss.length := by omega
        simp [hjl, hjs] at hj
        simp [List.getD_eq_getElem?_getD, hjs, ← hj]
      rw [this, Str_of]
    · have e1 := bulk_strs (H := H) (ss.take len)
      have e2 := bulk_strs (H := H) (ss.drop len)
      simp only [Rows.uptoBulk, e1, e2, List.length_take, List.length_drop]
      omega
    · intro x hx
      obtain ⟨s, hs, rfl⟩ := List.mem_map.1 hx
      rw [Array.length_toList]
      exact hsz s (List.mem_of_mem_take hs)
theorem open_intsA {H : Type} {enc : TypeId × Value → H} {P : Program} {W : World} {r : Reach} {b0 : Nat} {t e : TypeId} {v : Value} {d : DataW H} {p : List MemPlace} (ht : P.underlying t = some (.slice e)) (he : P.underlying e = some (.int .i64)) (hc : P.cellsOf e = 1)
    (hval : Value.okWide P W r b0 t v) (hd : DataW.Trod enc P W 0 (fun _ => true) true t v d p) :
    ∃ (a : Option Addr) (cap : Nat) (zs : List Int), v = .slice a zs.length cap ∧ zs.length ≤ cap ∧ cap ≤ maxLen ∧ Arr W [] a (zs.map intV) ∧ cap + 1 ≤ Rows.uptoBulk d ∧ (∀ x ∈ zs, -9223372036854775808 ≤ x ∧ x ≤ 9223372036854775807) := by
  obtain ⟨a0, len, cap, rfl⟩ := okWide_slice ht hval
  obtain ⟨fuel, hf⟩ := hd
  rcases open_ints ht he hc hf with ⟨hcs, hx⟩ | ⟨a, len', cap', ss, hcs, _, hl, hm, hz, hx, hcell, hsz⟩
  · simp [Value.cells] at hcs
    obtain ⟨rfl, rfl, rfl⟩ := hcs
    simp only [Prod.mk.injEq] at hx
    obtain ⟨rfl, rfl⟩ := hx
    exact ⟨none, 0, [], rfl, Nat.le_refl _, by decide, Arr.nil _ _ _, by simp [Rows.uptoBulk], by simp⟩
  · simp [Value.cells] at hcs
    obtain ⟨rfl, rfl, rfl⟩ := hcs
    simp only [Prod.mk.injEq] at hx
    obtain ⟨rfl, rfl⟩ := hx
    simp only [if_true] at hz
    have hlen : (ss.take len).length = len := by simp; omega
    refine ⟨some a, cap, ss.take len, by rw [hlen], by rw [hlen]; exact hl, hm, ?_, ?_, ?_⟩
    · intro j x hj
      have hjl : j < len := by
        have := (List.getElem?_eq_some_iff.1 hj).1
        simp at this; omega
      have hcj := hcell j (by omega)
      obtain ⟨b, off, spot⟩ := a
      have hspot : spot = none := by simpa [Addr.add] using World.cell?_spot (hcell 0 (by omega))
      subst hspot
      refine ⟨b, off, rfl, by simp, ?_⟩
      rw [add_plain] at hcj
      rw [hcj]
      have : x = intV (ss.getD j 0) := by
        have hjs : j < ss.length := by omega
        simp [hjl, hjs] at hj
        simp [List.getD_eq_getElem?_getD, hjs, ← hj]
      rw [this]; rfl
    · have e1 : ∀ l : List Int, Rows.uptoBulkAll (lits (H := H) .i64 l) = l.length := by
        intro l
        induction l with
        | nil => rfl
        | cons x r ih => simp only [lits, List.map_cons, Rows.uptoBulkAll, Rows.uptoBulk, List.length_cons] at ih ⊢; omega
      simp only [Rows.uptoBulk, e1, List.length_take, List.length_drop]
      omega
    · intro x hx
      have := hsz x (List.mem_of_mem_take hx)
      simpa [Lit.wf, IntKind.min, IntKind.max, IntKind.signed, IntKind.bits] using this
theorem bulk1 {H : Type} {d1 : DataW H} (h : Rows.uptoSmall H [d1] = true) : Rows.uptoBulk d1 ≤ 1048576 := by
  have h : Rows.uptoBulkAll [d1] ≤ 1048576 := of_decide_eq_true h
  simp only [Rows.uptoBulkAll] at h; omega
theorem bulk2 {H : Type} {d1 d2 : DataW H} (h : Rows.uptoSmall H [d1, d2] = true) : Rows.uptoBulk d1 + Rows.uptoBulk d2 ≤ 1048576 := by
  have h : Rows.uptoBulkAll [d1, d2] ≤ 1048576 := of_decide_eq_true h
  simp only [Rows.uptoBulkAll] at h; omega
theorem bulk3 {H : Type} {d1 d2 d3 : DataW H} (h : Rows.uptoSmall H [d1, d2, d3] = true) : Rows.uptoBulk d1 + Rows.uptoBulk d2 + Rows.uptoBulk d3 ≤ 1048576 := by
  have h : Rows.uptoBulkAll [d1, d2, d3] ≤ 1048576 := of_decide_eq_true h
  simp only [Rows.uptoBulkAll] at h; omega
end Go.Proofs.YthpmmfapolcaiaaGreatDoor

/- Arguments of any shape, opened: what their cells say, and how much they are. -/
namespace Go.Proofs.YthpmmfapolcaiaaGreatDoor
open Go Go.Eng Go.Proofs
open Go.ChangeShapes Go.WideShapes Go.ChangeAt Go.RowKit

/-- What the cells of a type are, as read of a world. -/
abbrev CellR (β : Type) := World → List Value → β → Prop
structure Opens (P : Program) (t : TypeId) {β : Type} (R : CellR β) (bulk : β → Nat) : Prop where
  out : ∀ {H : Type} {enc : TypeId × Value → H} {W : World} {fuel : Nat} {cs : List Value} {x : DataW H × List MemPlace}, DataW.trod enc P W 0 (fun _ => true) true fuel t cs = some x → ∃ b, R W cs b ∧ bulk b ≤ Rows.uptoBulk x.1

def RStr : CellR Bytes := fun _ cs s => cs = [Str s] ∧ s.length ≤ maxLen
def RInt (k : IntKind) : CellR Int := fun _ cs n => cs = [.int k n] ∧ (Lit.int k n).wf = true
def RBool : CellR Bool := fun _ cs b => cs = [.bool b]
structure RSl {β : Type} (sz : Nat) (R : CellR β) (W : World) (cs : List Value) (xs : List β) : Prop where
  ex : ∃ (a : Option Addr) (cap : Nat), cs = [.slice a xs.length cap] ∧ xs.length ≤ cap ∧ True ∧
    ∀ j (h : j < xs.length), ∃ b off cs', a = some ⟨b, off, none⟩ ∧ cs'.length = sz ∧ (∀ i v, cs'[i]? = some v → W.cell? ⟨b, off + (j * sz + i), none⟩ = some v) ∧ R W cs' xs[j]
def RPair {α β : Type} (n : Nat) (R : CellR α) (S : CellR β) : CellR (α × β) := fun W cs x => R W (cs.take n) x.1 ∧ S W (cs.drop n) x.2

theorem Opens.str {P : Program} {t : TypeId} (ht : P.underlying t = some .string) : Opens P t RStr (fun s => s.length + 1) := by
  refine ⟨fun {H enc W fuel cs x} h => ?_⟩
  obtain ⟨s, rfl, rfl, hs⟩ := DataW.trod_string ht h
  exact ⟨s.data.toList, ⟨by rw [Str_of], by rw [Array.length_toList]; exact hs⟩, Nat.le_refl _⟩
theorem Opens.int {P : Program} {t : TypeId} {k : IntKind} (ht : P.underlying t = some (.int k)) : Opens P t (RInt k) (fun _ => 1) := by
  refine ⟨fun {H enc W fuel cs x} h => ?_⟩
  obtain ⟨n, rfl, rfl, hs⟩ := DataW.trod_int ht h
  exact ⟨n, ⟨rfl, hs⟩, Nat.le_refl _⟩
theorem Opens.bool {P : Program} {t : TypeId} (ht : P.underlying t = some .bool) : Opens P t RBool (fun _ => 1) := by
  refine ⟨fun {H enc W fuel cs x} h => ?_⟩
  obtain ⟨n, rfl, rfl⟩ := DataW.trod_bool ht h
  exact ⟨n, rfl, Nat.le_refl _⟩
theorem bulk_range {H : Type} {β : Type} (bulk : β → Nat) : ∀ (xs : List β) (D : Nat → DataW H), (∀ j (h : j < xs.length), bulk xs[j] ≤ Rows.uptoBulk (D j)) → (xs.map bulk).sum ≤ Rows.uptoBulkAll ((List.range xs.length).map D)
  | [], _, _ => by simp
  | x :: r, D, h => by
    have ih := bulk_range bulk r (fun j => D (j + 1)) (fun j hj => h (j + 1) (by simpa using hj))
    have h0 := h 0 (by simp)
    rw [List.length_cons, List.range_succ_eq_map, List.map_cons, List.map_cons, List.map_map, List.sum_cons]
    simp only [Rows.uptoBulkAll]
    have : Function.comp D Nat.succ = fun j => D (j + 1) := rfl
    rw [this]
    simp only [List.getElem_cons_zero] at h0
    omega
theorem Opens.slice {P : Program} {t e : TypeId} {β : Type} {R : CellR β} {bulk : β → Nat} (ht : P.underlying t = some (.slice e)) {sz : Nat} (hc : P.cellsOf e = sz) (h0 : 0 < sz) (he : Opens P e R bulk) :
    Opens P t (RSl sz R) (fun xs => (xs.map bulk).sum + 1) := by
  refine ⟨fun {H enc W fuel cs x} h => ?_⟩
  rcases Go.Deep.open_slice ht h with ⟨rfl, rfl⟩ | ⟨a, len, cap, m, n, D, Pl, rfl, -, hl, hm, hmm, rfl, hx⟩
  · exact ⟨[], ⟨none, 0, rfl, Nat.le_refl _, by decide, fun j h => by simp at h⟩, by simp [Rows.uptoBulk]⟩
  rw [if_pos rfl] at hmm
  subst hmm
  rw [hc] at hx
  have hall : ∀ i, i < len → ∃ b : β, (∃ cs', W.cells? 0 (a.add (i * sz)) sz = some cs' ∧ R W cs' b) ∧ bulk b ≤ Rows.uptoBulk (D i) := by
    intro i hi
    obtain ⟨cs', h1, h2⟩ := hx i (by omega)
    obtain ⟨b, h3, h4⟩ := he.out h2
    exact ⟨b, ⟨cs', h1, h3⟩, h4⟩
  have hxs : ∃ xs : List β, xs.length = len ∧ ∀ i (hi : i < xs.length), (∃ cs', W.cells? 0 (a.add (i * sz)) sz = some cs' ∧ R W cs' xs[i]) ∧ bulk xs[i] ≤ Rows.uptoBulk (D i) := by
    clear h hx hl hm
    induction len with
    | zero => exact ⟨[], rfl, fun i hi => by simp at hi⟩
    | succ k ih =>
      obtain ⟨xs, hxl, hxs⟩ := ih (fun i hi => hall i (by omega))
      obtain ⟨b, hb⟩ := hall k (by omega)
      refine ⟨xs ++ [b], by simp [hxl], fun i hi => ?_⟩
      by_cases hik : i < xs.length
      · rw [List.getElem_append_left hik]; exact hxs i hik
      · have : i = k := by simp at hi; omega
        subst this
        rw [List.getElem_append_right (by omega)]
        simpa [hxl] using hb
  obtain ⟨xs, rfl, hxs⟩ := hxs
  refine ⟨xs, ⟨some a, _, rfl, hl, trivial, fun j hj => ?_⟩, ?_⟩
  · obtain ⟨⟨cs', h1, h2⟩, -⟩ := hxs j hj
    obtain ⟨_, h3, h4⟩ := World.cells?_some h1
    obtain ⟨b, off, spot⟩ := a
    have hcell : ∀ i v, cs'[i]? = some v → W.cell? ((Addr.mk b off spot).add (j * sz + i)) = some v := by
      intro i v hv
      have := h4 i (by have := (List.getElem?_eq_some_iff.1 hv).1; omega)
      rw [hv] at this
      rwa [Go.Deep.add_add] at this
    have hspot : spot = none := by
      obtain ⟨⟨cs0, k1, -⟩, -⟩ := hxs 0 (by omega)
      obtain ⟨_, k3, k4⟩ := World.cells?_some k1
      have := k4 0 h0
      rw [List.getElem?_eq_getElem (show 0 < cs0.length by omega)] at this
      simpa [Addr.add] using World.cell?_spot this
    subst hspot
    refine ⟨b, off, cs', rfl, h3, fun i v hv => ?_, h2⟩
    have := hcell i v hv
    rwa [add_plain] at this
  · have := bulk_range bulk xs D (fun j hj => (hxs j hj).2)
    simp only [Rows.uptoBulk]
    omega
theorem Opens.pair {P : Program} {t : TypeId} {f0 f1 : Field} {α β : Type} {R : CellR α} {S : CellR β} {b0 : α → Nat} {b1 : β → Nat} (ht : P.underlying t = some (.struct #[f0, f1])) {s0 s1 : Nat} (o0 : f0.offset = 0) (o1 : f1.offset = s0)
    (c0 : P.cellsOf f0.type = s0) (c1 : P.cellsOf f1.type = s1) (ct : P.cellsOf t = s0 + s1) (h0 : Opens P f0.type R b0) (h1 : Opens P f1.type S b1) : Opens P t (RPair s0 R S) (fun x => b0 x.1 + b1 x.2 + 1) := by
  refine ⟨fun {H enc W fuel cs x} h => ?_⟩
  obtain ⟨xs, n, -, rfl, hl, hxl, hx⟩ := DataW.trod_struct ht h
  have e0 := hx 0 f0 rfl
  have e1 := hx 1 f1 rfl
  have hx2 : xs.length = 2 := by simpa using hxl
  rw [o0, c0, List.drop_zero] at e0
  rw [o1, c1, List.take_of_length_le (by rw [List.length_drop]; omega)] at e1
  rw [List.getElem?_eq_getElem (show 0 < xs.length by omega)] at e0
  rw [List.getElem?_eq_getElem (show 1 < xs.length by omega)] at e1
  obtain ⟨a, g0, g1⟩ := h0.out e0
  obtain ⟨b, g2, g3⟩ := h1.out e1
  refine ⟨(a, b), ⟨g0, g2⟩, ?_⟩
  match xs, hx2 with
  | [u, v], _ =>
    simp only [List.getElem_cons_zero, List.getElem_cons_succ] at g1 g3
    simp only [List.map_cons, List.map_nil, Rows.uptoBulk, Rows.uptoBulkAll]
    omega
/-- A struct's fields from the offset o on. -/
structure OpensFs (P : Program) (o : Nat) (fs : List Field) (sz : Nat) {β : Type} (R : CellR β) (bulk : β → Nat) : Prop where
  out : ∀ {H : Type} {enc : TypeId × Value → H} {W : World} {fuel : Nat} {cs : List Value} {xs : List (DataW H × List MemPlace)}, cs.length = sz → xs.length = fs.length →
    (∀ (i : Nat) (f : Field), fs[i]? = some f → DataW.trod enc P W 0 (fun _ => true) true fuel f.type ((cs.drop f.offset).take (P.cellsOf f.type)) = xs[i]?) → ∃ b, R W (cs.drop o) b ∧ bulk b ≤ Rows.uptoBulkAll (xs.map (·.1))
def RNil : CellR Unit := fun _ cs _ => cs = []
theorem OpensFs.nil {P : Program} {sz : Nat} : OpensFs P sz [] sz RNil (fun _ => 0) := by
  refine ⟨fun {H enc W fuel cs xs} h1 h2 h3 => ?_⟩
  refine ⟨(), ?_, Nat.zero_le _⟩
  show cs.drop sz = []
  rw [List.drop_eq_nil_iff]; omega
theorem OpensFs.cons {P : Program} {o s sz : Nat} {f : Field} {fs : List Field} {α β : Type} {R : CellR α} {S : CellR β} {b0 : α → Nat} {b1 : β → Nat} (ho : f.offset = o) (hc : P.cellsOf f.type = s) (h0 : Opens P f.type R b0) (h1 : OpensFs P (o + s) fs sz S b1) :
    OpensFs P o (f :: fs) sz (RPair s R S) (fun x => b0 x.1 + b1 x.2) := by
  refine ⟨fun {H enc W fuel cs xs} hl hx h => ?_⟩
  match xs, hx with
  | x :: xs, hx =>
    have e0 := h 0 f rfl
    rw [ho, hc] at e0
    obtain ⟨a, g0, g1⟩ := h0.out e0
    obtain ⟨b, g2, g3⟩ := h1.out hl (by simpa using hx) (fun i f' hf => by simpa using h (i + 1) f' (by simpa using hf))
    refine ⟨(a, b), ⟨g0, by rw [List.drop_drop]; exact g2⟩, ?_⟩
    simp only [List.map_cons, Rows.uptoBulkAll]
    omega
theorem Opens.struct {P : Program} {t : TypeId} {fs : List Field} {sz : Nat} {β : Type} {R : CellR β} {bulk : β → Nat} (ht : P.underlying t = some (.struct ⟨fs⟩)) (ct : P.cellsOf t = sz) (h : OpensFs P 0 fs sz R bulk) : Opens P t R (fun x => bulk x + 1) := by
  refine ⟨fun {H enc W fuel cs x} hx => ?_⟩
  obtain ⟨xs, n, -, rfl, hl, hxl, hx⟩ := DataW.trod_struct ht hx
  obtain ⟨b, g0, g1⟩ := h.out (by rw [hl, ct]) (by simpa using hxl) (fun i f hf => hx i f (by simpa using hf))
  refine ⟨b, by simpa using g0, ?_⟩
  simp only [Rows.uptoBulk]; omega
theorem RSl.inv {β : Type} {sz : Nat} {R : CellR β} {W : World} {v : Value} {xs : List β} (h : RSl sz R W [v] xs) : ∃ (a : Option Addr) (cap : Nat), v = .slice a xs.length cap ∧ xs.length ≤ cap ∧ True ∧ RSl sz R W [.slice a xs.length cap] xs := by
  obtain ⟨a, cap, h1, h2, h3, h4⟩ := h.ex
  refine ⟨a, cap, by simpa using h1, h2, h3, ⟨a, cap, rfl, h2, h3, h4⟩⟩
theorem RSl.get {β : Type} {R : CellR β} {W : World} {a : Option Addr} {n cap : Nat} {xs : List β} (h : RSl 1 R W [.slice a n cap] xs) {j : Nat} (hj : j < xs.length) : ∃ b off v, a = some ⟨b, off, none⟩ ∧ W.cell? ⟨b, off + j, none⟩ = some v ∧ R W [v] xs[j] := by
  obtain ⟨a', cap', h1, -, -, h4⟩ := h.ex
  obtain ⟨b, off, cs, h5, h6, h7, h8⟩ := h4 j hj
  have : a = a' := by simpa using (List.cons.inj h1).1 |> fun h => (Value.slice.inj h).1
  subst this
  match cs, h6 with
  | [v], _ => exact ⟨b, off, v, h5, by simpa using h7 0 v rfl, h8⟩
theorem RSl.strs {W : World} {a : Option Addr} {n cap : Nat} {xs : List Bytes} (h : RSl 1 RStr W [.slice a n cap] xs) : Arr W [] a (xs.map Str) := by
  intro j x hj
  have hjl : j < xs.length := by have := (List.getElem?_eq_some_iff.1 hj).1; simpa using this
  obtain ⟨b, off, v, h1, h2, h3, -⟩ := h.get hjl
  refine ⟨b, off, h1, by simp, ?_⟩
  have : x = v := by
    rw [List.getElem?_map, List.getElem?_eq_getElem hjl] at hj
    simp at hj h3; rw [h3, ← hj]
  rw [this]; exact h2

theorem Trod.out {H : Type} {enc : TypeId × Value → H} {P : Program} {W : World} {t : TypeId} {v : Value} {d : DataW H} {p : List MemPlace} (hd : DataW.Trod enc P W 0 (fun _ => true) true t v d p) {β : Type} {R : CellR β} {bulk : β → Nat} (h : Opens P t R bulk) :
    ∃ b, R W v.cells.toList b ∧ bulk b ≤ Rows.uptoBulk d := by
  obtain ⟨fuel, hf⟩ := hd
  exact h.out hf
theorem bulk_SS (bss : List (List Bytes)) : ((bss.map fun ps => (ps.map fun s => s.length + 1).sum + 1).sum + 1) = sumLen bss.flatten + bss.flatten.length + bss.length + 1 := by
  have key : ∀ ps : List Bytes, (ps.map fun s => s.length + 1).sum = sumLen ps + ps.length := by
    intro ps
    induction ps with
    | nil => rfl
    | cons s r ih => simp only [sumLen, List.map_cons, List.sum_cons, List.length_cons] at ih ⊢; omega
  induction bss with
  | nil => rfl
  | cons ps r ih =>
    simp only [List.map_cons, List.sum_cons, List.flatten_cons, List.length_cons, List.length_append, key] at ih ⊢
    have : sumLen (ps ++ r.flatten) = sumLen ps + sumLen r.flatten := by simp [sumLen]
    omega
end Go.Proofs.YthpmmfapolcaiaaGreatDoor

/- Slices that are handed in: their structs, loaded. -/
namespace Go.Proofs.YthpmmfapolcaiaaGreatDoor
open Go Go.Eng Go.Proofs
/-- The j-th struct of a slice that was handed in. -/
theorem RSl.at {β : Type} {sz : Nat} {R : CellR β} {W : World} {a : Option Addr} {n cap : Nat} {xs : List β} (h : RSl sz R W [.slice a n cap] xs) {j : Nat} (hj : j < xs.length) :
    ∃ b off cs, a = some ⟨b, off, none⟩ ∧ cs.length = sz ∧ (∀ i v, cs[i]? = some v → W.cell? ⟨b, off + (j * sz + i), none⟩ = some v) ∧ R W cs xs[j] := by
  obtain ⟨a', cap', h1, -, -, h4⟩ := h.ex
  have : a = a' := by simpa using (List.cons.inj h1).1 |> fun h => (Value.slice.inj h).1
  subst this
  exact h4 j hj
/-- What was handed in stays. -/
theorem RSl.keep {β : Type} {sz : Nat} {R : CellR β} {w0 w : World} {H : Heap} (hS : St w0 [] H w) (hR : ∀ cs x, R w0 cs x → R w cs x) {cs : List Value} {xs : List β} (h : RSl sz R w0 cs xs) : RSl sz R w cs xs := by
  obtain ⟨a, cap, h1, h2, h3, h4⟩ := h.ex
  refine ⟨a, cap, h1, h2, h3, fun j hj => ?_⟩
  obtain ⟨b, off, cs', h5, h6, h7, h8⟩ := h4 j hj
  exact ⟨b, off, cs', h5, h6, fun i v hv => hS.oldCell (by simp) (h7 i v hv), hR _ _ h8⟩
/-- The j-th struct of a slice that was handed in, loaded. -/
theorem RSl.ldn {β : Type} {sz : Nat} {R : CellR β} {w0 w : World} {H : Heap} (hS : St w0 [] H w) {a : Option Addr} {n cap : Nat} {xs : List β} (h : RSl sz R w0 [.slice a n cap] xs) {j : Nat} (hj : j < xs.length) :
    ∃ b off cs, a = some ⟨b, off, none⟩ ∧ R w0 cs xs[j] ∧ ∀ K : List Value → Prop, K cs → LdN (fun w' => w = w') sz b (off + j * sz) K := by
  obtain ⟨b, off, cs, h1, h2, h3, h4⟩ := h.at hj
  refine ⟨b, off, cs, h1, h4, fun K hK => ⟨⟨cs, h2, fun _ e i v hv => ?_, hK⟩⟩⟩
  subst e
  have := hS.oldCell (by simp) (h3 i v hv)
  rw [← Nat.add_assoc] at this
  exact this
/-- The j-th struct of a slice that was handed in, loaded in any world of a class. -/
theorem RSl.ldnC {β : Type} {sz : Nat} {R : CellR β} {w0 : World} {a : Option Addr} {n cap : Nat} {xs : List β} (h : RSl sz R w0 [.slice a n cap] xs) {j : Nat} (hj : j < xs.length) :
    ∃ b off cs, a = some ⟨b, off, none⟩ ∧ R w0 cs xs[j] ∧ ∀ K : List Value → Prop, K cs → LdN (fun w' => St w0 [] [] w') sz b (off + j * sz) K := by
  obtain ⟨b, off, cs, h1, h2, h3, h4⟩ := h.at hj
  refine ⟨b, off, cs, h1, h4, fun K hK => ⟨⟨cs, h2, fun _ e i v hv => ?_, hK⟩⟩⟩
  have := e.oldCell (by simp) (h3 i v hv)
  rw [← Nat.add_assoc] at this
  exact this
theorem RSl.mem {β : Type} {sz : Nat} {R : CellR β} {W : World} {v : Value} {xs : List β} (h : RSl sz R W [v] xs) {x : β} (hx : x ∈ xs) : ∃ cs, R W cs x := by
  obtain ⟨a, cap, -, -, -, h4⟩ := h.ex
  obtain ⟨i, hi, rfl⟩ := List.mem_iff_getElem.1 hx
  obtain ⟨b, off, cs, -, -, -, h8⟩ := h4 i hi
  exact ⟨cs, h8⟩
theorem Opens.map {P : Program} {t : TypeId} {β γ : Type} {R : CellR β} {S : CellR γ} {bk : β → Nat} {bk' : γ → Nat} (h : Opens P t R bk) (f : β → γ) (hf : ∀ W cs x, R W cs x → S W cs (f x)) (hb : ∀ x, bk' (f x) ≤ bk x) : Opens P t S bk' := by
  refine ⟨fun {H enc W fuel cs x} hx => ?_⟩
  obtain ⟨b, h1, h2⟩ := h.out hx
  exact ⟨f b, hf _ _ _ h1, Nat.le_trans (hb b) h2⟩
def i64b (n : Int) : Prop := -9223372036854775808 ≤ n ∧ n ≤ 9223372036854775807
theorem wf_i64b {n : Int} (h : (Lit.int .i64 n).wf = true) : i64b n := by
  unfold i64b; simpa [Lit.wf, IntKind.min, IntKind.max, IntKind.signed, IntKind.bits] using h
theorem wf_u8b {n : Int} (h : (Lit.int .u8 n).wf = true) : 0 ≤ n ∧ n ≤ 255 := by
  simpa [Lit.wf, IntKind.min, IntKind.max, IntKind.signed, IntKind.bits] using h
/-- The first cell, and the rest. -/
theorem take1' {cs : List Value} {x : Value} (h : cs.take 1 = [x]) : cs = x :: cs.drop 1 := by
  conv => lhs; rw [← List.take_append_drop 1 cs, h]
  rfl
theorem pair_int {k : IntKind} {β : Type} {S : CellR β} {W : World} {cs : List Value} {x : Int × β} (h : RPair 1 (RInt k) S W cs x) : cs = .int k x.1 :: cs.drop 1 ∧ (Lit.int k x.1).wf = true ∧ S W (cs.drop 1) x.2 :=
  ⟨take1' h.1.1, h.1.2, h.2⟩
theorem pair_bool {β : Type} {S : CellR β} {W : World} {cs : List Value} {x : Bool × β} (h : RPair 1 RBool S W cs x) : cs = .bool x.1 :: cs.drop 1 ∧ S W (cs.drop 1) x.2 :=
  ⟨take1' h.1, h.2⟩
theorem pair_str {β : Type} {S : CellR β} {W : World} {cs : List Value} {x : Bytes × β} (h : RPair 1 RStr S W cs x) : cs = Str x.1 :: cs.drop 1 ∧ S W (cs.drop 1) x.2 :=
  ⟨take1' h.1.1, h.2⟩
theorem pair_sl {α β : Type} {sz : Nat} {R : CellR α} {S : CellR β} {W : World} {cs : List Value} {x : List α × β} (h : RPair 1 (RSl sz R) S W cs x) : ∃ v, cs = v :: cs.drop 1 ∧ RSl sz R W [v] x.1 ∧ S W (cs.drop 1) x.2 := by
  obtain ⟨a, cap, h1, -⟩ := h.1.ex
  refine ⟨_, take1' h1, ?_, h.2⟩
  rw [← h1]; exact h.1
/-- Edits in a block of the call's own. -/
theorem RSl.own {β : Type} {sz : Nat} {R : CellR β} {w0 w : World} {T : List Nat} {H : Heap} {g : Nat} {t : TypeId} {fz : Nat × Nat} {css : List (List Value)} {tail : List Value} {F : Obj → Heap} (hS : St w0 T H w) [Slot H g (.cells ⟨css.flatten ++ tail⟩ t fz) F] {xs : List β} {cap : Nat}
    (hl : css.length = xs.length) (hc : ∀ c ∈ css, c.length = sz) (hR : ∀ j (h1 : j < css.length) (h2 : j < xs.length), R w css[j] xs[j]) (hcap : xs.length ≤ cap) (_hm : True) : RSl sz R w [.slice (some ⟨g, 0, none⟩) xs.length cap] xs := by
  refine ⟨some ⟨g, 0, none⟩, cap, rfl, hcap, trivial, fun j hj => ?_⟩
  have hj' : j < css.length := by omega
  refine ⟨g, 0, css[j], rfl, hc _ (List.getElem_mem hj'), fun i v hv => ?_, hR j hj' hj⟩
  refine hS.cell ?_
  have hfl : ∀ (l : List (List Value)) (j i : Nat) (v : Value) (hj : j < l.length), (∀ c ∈ l, c.length = sz) → l[j][i]? = some v → (l.flatten ++ tail)[j * sz + i]? = some v := by
    intro l
    induction l with
    | nil => intro j i v hj; simp at hj
    | cons c l ih =>
      intro j i v hj hc hv
      have hcl := hc c (by simp)
      cases j with
      | zero =>
        simp only [List.getElem_cons_zero] at hv
        rw [Nat.zero_mul, Nat.zero_add, List.flatten_cons, List.append_assoc, List.getElem?_append_left (List.getElem?_eq_some_iff.1 hv).1]
        exact hv
      | succ j =>
        simp only [List.getElem_cons_succ] at hv
        rw [List.flatten_cons, List.append_assoc, Nat.succ_mul, List.getElem?_append_right (by omega), show j * sz + sz + i - c.length = j * sz + i by omega]
        exact ih j i v (by simpa using hj) (fun c h => hc c (by simp [h])) hv
  rw [Nat.zero_add]
  exact hfl css j i v hj' hc hv
end Go.Proofs.YthpmmfapolcaiaaGreatDoor

/- A state of the engine, as plain data: its parts in memory, its records. -/
namespace Go.Proofs.YthpmmfapolcaiaaGreatDoor
open Go Go.Eng Go.Proofs

structure RowM where
  num : Int
  cab : Int
  zone : Int
  exit : Bool
  seats : Bytes
structure EquipM where
  id : Int
  rows : List RowM
structure FlightM where
  id : Int
  equip : Int
  phase : Int
  seq : Int
  l0 : Int
  l1 : Int
  l2 : Int
  l3 : Int
structure PaxM where
  id : Int
  flight : Int
  cab : Int
  fit : Bool
  infant : Bool
  vol : Bool
  stb : Bool
  cls : Int
  status : Int
  tick : Int
  pass : Int
  num : Int
  c : Nat
structure StateM where
  eqs : List EquipM
  fls : List FlightM
  pxs : List PaxM
/-- A list of cells read one by one. -/
theorem pair_one {α β : Type} {R : CellR α} {S : CellR β} {W : World} {cs : List Value} {x : α × β} {v : Value} (h : RPair 1 R S W cs x) (hv : ∀ cs', R W cs' x.1 → cs' = [v]) : cs = v :: cs.drop 1 ∧ S W (cs.drop 1) x.2 :=
  ⟨take1' (hv _ h.1), h.2⟩
def rowC (r : RowM) : List Value := [.int .i64 r.num, .int .i64 r.cab, .int .i64 r.zone, .bool r.exit, Str r.seats]
structure RowM.ok (r : RowM) : Prop where
  num : i64b r.num
  cab : i64b r.cab
  zone : i64b r.zone
def RRow : CellR RowM := fun _ cs r => cs = rowC r ∧ r.ok
def flC (f : FlightM) : List Value := [.int .i64 f.id, .int .i64 f.equip, .int .i64 f.phase, .int .i64 f.seq, .int .i64 f.l0, .int .i64 f.l1, .int .i64 f.l2, .int .i64 f.l3]
structure FlightM.ok (f : FlightM) : Prop where
  id : i64b f.id
  equip : i64b f.equip
  phase : i64b f.phase
  seq : i64b f.seq
  l0 : i64b f.l0
  l1 : i64b f.l1
  l2 : i64b f.l2
  l3 : i64b f.l3
def RFlight : CellR FlightM := fun _ cs f => cs = flC f ∧ f.ok
def paxC (p : PaxM) : List Value := [.int .i64 p.id, .int .i64 p.flight, .int .i64 p.cab, .bool p.fit, .bool p.infant, .bool p.vol, .bool p.stb, .int .i64 p.cls, .int .i64 p.status, .int .i64 p.tick, .int .i64 p.pass, .int .i64 p.num, .int .u8 p.c]
structure PaxM.ok (p : PaxM) : Prop where
  id : i64b p.id
  flight : i64b p.flight
  cab : i64b p.cab
  cls : i64b p.cls
  status : i64b p.status
  tick : i64b p.tick
  pass : i64b p.pass
  num : i64b p.num
  c : p.c < 256
def RPax : CellR PaxM := fun _ cs p => cs = paxC p ∧ p.ok
def REquip : CellR EquipM := fun W cs e => ∃ v, cs = [.int .i64 e.id, v] ∧ i64b e.id ∧ RSl 5 RRow W [v] e.rows
def RState : CellR StateM := fun W cs s => ∃ u v x, cs = [u, v, x] ∧ RSl 2 REquip W [u] s.eqs ∧ RSl 8 RFlight W [v] s.fls ∧ RSl 13 RPax W [x] s.pxs
end Go.Proofs.YthpmmfapolcaiaaGreatDoor

/- Conversions between byte slices and strings; integers of unsigned kinds as natural numbers. -/
namespace Go.Eng
open Go
section
variable {P : Program} {T0 : Tbl}

theorem foldl_push_bytes : ∀ (l : List UInt8) (r : ByteArray), (l.map (fun b => (b.toNat : Int))).foldl (fun r n => r.push (UInt8.ofNat n.toNat)) r = ⟨r.data ++ l.toArray⟩
  | [], r => by simp
  | b :: l, r => by
    simp only [List.map_cons, List.foldl_cons, foldl_push_bytes l]
    apply ByteArray.ext
    simp

/-- string(b): the slice's bytes, in every world of C. -/
theorem toStr (hT : TOk P T0) {s d e : TypeId} {i ie id : TI} (hi : tf T0 s = some i) (hk : i.k = .slice e 1) (hie : tf T0 e = some ie) (hke : ie.k = .int .u8) (hid : tf T0 d = some id) (hkd : id.k = .str)
    {C : World → Prop} {T : List Nat} {a : Option Addr} {bs : List UInt8} {n cap : Nat} (hn : bs.length = n) (ha : ∀ w, C w → Arr w T a (bs.map byteV)) {K : Value → Prop} (hK : K (Str bs)) :
    RdG P (convert s d (.slice a n cap)) C K := by
  refine ⟨⟨_, fun w hw => ?_, hK⟩⟩
  have hs := und_of hT hi; rw [hk] at hs
  have he := und_of hT hie; rw [hke] at he
  have hd := und_of hT hid; rw [hkd] at hd
  rw [run_convert_bytes_string w s d e a n cap hs.1 he hd]
  cases a with
  | none =>
    cases bs with
    | nil => rfl
    | cons b bs => obtain ⟨_, _, h, _⟩ := ha w hw 0 (byteV b) rfl; cases h
  | some a =>
    have h1 := run_loadCells_list (P := P) (w := w) a ((bs.map fun b => (b.toNat : Int)).map (Value.int .u8)) (fun j v hj => by
      have hj' : (bs.map byteV)[j]? = some v := by simpa [byteV, List.getElem?_map, Function.comp] using hj
      obtain ⟨bk, off, h1, _, h3⟩ := ha w hw j v hj'
      cases h1
      rw [Addr.add_eq]; exact h3)
    rw [run_bytesToString (P := P) w a n cap (bs.map fun b => (b.toNat : Int)) (by simpa [hn] using h1)]
    congr 2
    rw [foldl_push_bytes]
    simp
end

/-! ### Unsigned integers -/
theorem wrapU (k : IntKind) (hs : k.signed = false) (n : Nat) : k.wrap (n : Int) = ((n % 2 ^ k.bits : Nat) : Int) := by
  unfold IntKind.wrap; simp only [hs]; simp
theorem u8wrap (n : Nat) : IntKind.u8.wrap (n : Int) = ((UInt8.ofNat n).toNat : Int) := by
  rw [wrapU .u8 rfl]; simp [UInt8.toNat_ofNat']; rfl
theorem fdivU (n k : Nat) : (n : Int).fdiv (k : Int) = ((n / k : Nat) : Int) := by
  rw [← Int.ofNat_fdiv]
theorem fdivP (n k : Nat) : (n : Int).fdiv (2 ^ k) = ((n / 2 ^ k : Nat) : Int) := by
  have : ((2 : Int) ^ k) = ((2 ^ k : Nat) : Int) := by simp
  rw [this, fdivU]
theorem orU (k : IntKind) (hs : k.signed = false) (x y : Nat) (hx : x < 2 ^ k.bits) (hy : y < 2 ^ k.bits) : orI k x y = ((x ||| y : Nat) : Int) := by
  unfold orI
  rw [BitVec.toNat_or, BitVec.ofInt_natCast, BitVec.ofInt_natCast, BitVec.toNat_ofNat, BitVec.toNat_ofNat, Nat.mod_eq_of_lt hx, Nat.mod_eq_of_lt hy, wrapU k hs, Nat.mod_eq_of_lt (Nat.or_lt_two_pow hx hy)]
theorem andU (k : IntKind) (hs : k.signed = false) (x y : Nat) (hx : x < 2 ^ k.bits) (hy : y < 2 ^ k.bits) : andI k x y = ((x &&& y : Nat) : Int) := by
  unfold andI
  rw [BitVec.toNat_and, BitVec.ofInt_natCast, BitVec.ofInt_natCast, BitVec.toNat_ofNat, BitVec.toNat_ofNat, Nat.mod_eq_of_lt hx, Nat.mod_eq_of_lt hy, wrapU k hs, Nat.mod_eq_of_lt (Nat.and_lt_two_pow _ hy)]
theorem xorU (k : IntKind) (hs : k.signed = false) (x y : Nat) (hx : x < 2 ^ k.bits) (hy : y < 2 ^ k.bits) : xorI k x y = ((x ^^^ y : Nat) : Int) := by
  unfold xorI
  rw [BitVec.toNat_xor, BitVec.ofInt_natCast, BitVec.ofInt_natCast, BitVec.toNat_ofNat, BitVec.toNat_ofNat, Nat.mod_eq_of_lt hx, Nat.mod_eq_of_lt hy, wrapU k hs, Nat.mod_eq_of_lt (Nat.xor_lt_two_pow hx hy)]
theorem or_add (a b k : Nat) (hb : b < 2 ^ k) : (a * 2 ^ k) ||| b = a * 2 ^ k + b := by
  rw [← Nat.shiftLeft_eq, Nat.shiftLeft_add_eq_or_of_lt hb]
end Go.Eng

/- Package pack: the writer. -/
namespace Go.Proofs.YthpmmfapolcaiaaGreatDoor
open Go Go.Eng Go.Proofs

/-- []byte(s): a block of the call's own. -/
theorem St.toBytes {P : Program} {T0 : Tbl} (hT : TOk P T0) {t u e : TypeId} {i iu ie : TI} (hi : tf T0 t = some i) (hk : i.k = .slice e 1) (hiu : tf T0 u = some iu) (hku : iu.k = .str) (hie : tf T0 e = some ie) (hke : ie.k = .int .u8)
    {w0 w : World} {T : List Nat} {H : Heap} (hS : St w0 T H w) {s : Bytes} {K : Value → World → Prop}
    (h : ∀ b c z fz w', s.length ≤ c ∧ s.length ≤ fz.1 → St w0 T ((b, .cells ⟨s.map byteV ++ z⟩ e fz) :: H) w' → K (.slice (some ⟨b, 0, none⟩) s.length c) w') : RunG P (convert u t (Str s)) w K := by
  have h1 := und_of hT hiu; rw [hku] at h1
  have h2 := und_of hT hi; rw [hk] at h2
  have h3 := und_of hT hie; rw [hke] at h3
  have hge := grownCap_ge w s.length 0 e
  have e1 : bytesRow ⟨⟨s⟩⟩ (grownCap w s.length 0 e) = ⟨s.map byteV ++ List.replicate (grownCap w s.length 0 e - s.length) (.int .u8 0)⟩ := by
    apply Array.ext'
    simp [bytesRow]; rfl
  have hrun : (convert u t (Str s)).run P w = .ok (.slice (some ⟨w.heap.size, 0, none⟩) s.length (grownCap w s.length 0 e))
      (w.drew.alloc (.cells (bytesRow ⟨⟨s⟩⟩ (grownCap w s.length 0 e)) e ((bytesRow ⟨⟨s⟩⟩ (grownCap w s.length 0 e)).size, (bytesRow ⟨⟨s⟩⟩ (grownCap w s.length 0 e)).size + 1))) := run_bytes_of_string w u t e ⟨⟨s⟩⟩ h1 h2.1 h3
  rw [e1] at hrun
  exact RunG.of hrun (h _ _ _ _ _ ⟨hge, by simp⟩ (hS.drew.alloc _))

inductive PackW (b : Nat) (bs : Bytes) : Heap → Prop where
  | mk (a : Option Addr) (cap : Nat) (L : Heap) (hv : Vec T_uint8 1 a bs.length cap (bs.map byteV) L) : PackW b bs ((b, .cells ⟨[.int .i64 bs.length, .slice a bs.length cap]⟩ T_pack_Writer (0, 0)) :: L)
theorem PNew_spec {w : World} : Cl Tryz.prog f_pack_New [] w fun v w' => ∃ b L, v = ptr b ∧ PackW b [] L ∧ St w [] L w' := by
  have hS := St.start w
  refine en_pack_New rfl ?_
  repeat (first | refine SemW.run tblOk ?_ | refine jA (by omega) ?_ | refine jB (by omega) ?_ | refine jC (by omega) ?_ | refine jD (by omega) ?_ | refine jE rfl ?_ | refine jF (by omega) ?_ | (refine jG ?_; first | with_reducible (first | refine jH ?_ | refine jI ?_ | refine jJ ?_ | refine jK ?_ | refine jL ?_) | refine jM (by omega) ?_ | refine jN (by omega) ?_ | with_reducible refine jM rfl ?_ | refine jM (by assumption) ?_ | refine jN (by assumption) ?_ | refine jM (by decide) ?_ | refine jN (by decide) ?_) | refine jF (ptr_ok tblOk rfl rfl) ?_ | refine jO (fun _ => by kernel_rfl) ?_ | refine jF (by decide) ?_)
  refine hS.al ?_
  intro b w1 _ hS
  repeat (first | refine SemW.run tblOk ?_ | refine jA (by omega) ?_ | refine jB (by omega) ?_ | refine jC (by omega) ?_ | refine jD (by omega) ?_ | refine jE rfl ?_ | refine jF (by omega) ?_ | (refine jG ?_; first | with_reducible (first | refine jH ?_ | refine jI ?_ | refine jJ ?_ | refine jK ?_ | refine jL ?_) | refine jM (by omega) ?_ | refine jN (by omega) ?_ | with_reducible refine jM rfl ?_ | refine jM (by assumption) ?_ | refine jN (by assumption) ?_ | refine jM (by decide) ?_ | refine jN (by decide) ?_) | refine jF (ptr_ok tblOk rfl rfl) ?_ | refine jO (fun _ => by kernel_rfl) ?_ | refine jF (by decide) ?_)
  exact ⟨b, _, rfl, PackW.mk none 0 [] Vec.nil, hS⟩
theorem add_spec {w : World} {b : Nat} {bs : Bytes} {L : Heap} (hW : PackW b bs L) (hh : Holds L w) {a : Option Addr} {cap : Nat} {xs : Bytes} (ha : Arr w (keys L) a (xs.map byteV)) (hlen : bs.length + xs.length ≤ 140737488355328) :
    Cl Tryz.prog f_pack_Writer_add [ptr b, .slice a xs.length cap] w fun _ w' => ∃ L', PackW b (bs ++ xs) L' ∧ St w (keys L) L' w' := by
  have hS := St.enter hh
  generalize hT : keys L = T0 at hS ha ⊢
  obtain ⟨a0, c0, L0, hv⟩ := hW
  refine en_pack_Writer_add rfl ?_
  repeat (first | refine SemW.run tblOk ?_ | refine jA (by omega) ?_ | refine jB (by omega) ?_ | refine jC (by omega) ?_ | refine jD (by omega) ?_ | refine jE rfl ?_ | refine jF (by omega) ?_ | (refine jG ?_; first | with_reducible (first | refine jH ?_ | refine jI ?_ | refine jJ ?_ | refine jK ?_ | refine jL ?_) | refine jM (by omega) ?_ | refine jN (by omega) ?_ | with_reducible refine jM rfl ?_ | refine jM (by assumption) ?_ | refine jN (by assumption) ?_ | refine jM (by decide) ?_ | refine jN (by decide) ?_) | refine jF (ptr_ok tblOk rfl rfl) ?_ | refine jO (fun _ => by kernel_rfl) ?_ | refine jF (by decide) ?_ | refine hS.ld rfl ?_ | refine hS.ldn rfl ?_ | (refine hS.st rfl rfl ?_; intro _ hS))
  refine St.app (sz := 1) (m := xs.length) tblOk rfl rfl rfl rfl hS hv (news := xs.map byteV) (by simp) ((hS.arrOld ha).sub (by simp)) (by simp [byteV, Value.oneCell']) (by show (_ + _) * 1 ≤ _; omega) (by omega) ?_
  intro a' c' L' w' hv' hS
  have hl : (bs ++ xs).length = bs.length + xs.length := List.length_append
  rw [← hl, ← List.map_append] at hv'
  rw [← hl]
  repeat (first | refine SemW.run tblOk ?_ | refine jA (by omega) ?_ | refine jB (by omega) ?_ | refine jC (by omega) ?_ | refine jD (by omega) ?_ | refine jE rfl ?_ | refine jF (by omega) ?_ | (refine jG ?_; first | with_reducible (first | refine jH ?_ | refine jI ?_ | refine jJ ?_ | refine jK ?_ | refine jL ?_) | refine jM (by omega) ?_ | refine jN (by omega) ?_ | with_reducible refine jM rfl ?_ | refine jM (by assumption) ?_ | refine jN (by assumption) ?_ | refine jM (by decide) ?_ | refine jN (by decide) ?_) | refine jF (ptr_ok tblOk rfl rfl) ?_ | refine jO (fun _ => by kernel_rfl) ?_ | refine jF (by decide) ?_ | refine hS.ld rfl ?_ | refine hS.ldn rfl ?_ | (refine hS.st rfl rfl ?_; intro _ hS))
  refine ⟨_, PackW.mk a' c' L' hv', ?_⟩
  rw [show (((bs ++ xs).length : Nat) : Int) = (bs.length : Int) + (xs.length : Int) by rw [hl]; omega]
  exact hS

def u64V (n : Nat) : Value := .int .u64 n
theorem or128 (m : Nat) : orI .u8 (IntKind.u8.wrap (m : Int)) 128 = (((UInt8.ofNat (m % 128 + 128)).toNat : Nat) : Int) := by
  have e1 : IntKind.u8.wrap (m : Int) = ((m % 256 : Nat) : Int) := wrapU .u8 rfl m
  rw [e1]
  have h := Nat.mod_lt m (show 0 < 256 by omega)
  have e2 : m % 128 = m % 256 % 128 := by omega
  rw [e2]
  generalize m % 256 = r at h
  have key : ∀ r : Fin 256, orI .u8 ((r.val : Nat) : Int) 128 = (((UInt8.ofNat (r.val % 128 + 128)).toNat : Nat) : Int) := by decide +kernel
  exact key ⟨r, h⟩
theorem numbs_succ (ns : List Nat) (k : Nat) (hk : k < ns.length) : ((ns.take (k + 1)).map numB).flatten = ((ns.take k).map numB).flatten ++ numB ns[k] := by
  rw [List.take_succ_eq_append_getElem hk, List.map_append, List.flatten_append, List.map_cons, List.map_nil, List.flatten_cons, List.flatten_nil, List.append_nil]
theorem numB_len10 (n : Nat) (h : n < 18446744073709551616) : (numB n).length ≤ 10 := numB_len 9 n (Nat.lt_of_lt_of_le h (by decide))
theorem numbs_len (ns : List Nat) (h : ∀ n ∈ ns, n < 18446744073709551616) : ((ns.map numB).flatten).length ≤ 10 * ns.length := by
  induction ns with
  | nil => simp
  | cons n r ih =>
    have h1 := numB_len10 n (h n (by simp))
    have h2 := ih (fun m hm => h m (List.mem_cons_of_mem _ hm))
    simp only [List.map_cons, List.flatten_cons, List.length_append, List.length_cons]; omega
theorem byteV_ofNat (m : Nat) (h : m < 256) : byteV (UInt8.ofNat m) = .int .u8 (m : Int) := by
  have : (UInt8.ofNat m).toNat = m := by simp; omega
  unfold byteV; rw [this]

set_option maxHeartbeats 1000000 in
theorem Num_spec {w : World} {b : Nat} {bs : Bytes} {L : Heap} (hW : PackW b bs L) (hh : Holds L w) {a : Option Addr} {cap : Nat} {ns : List Nat} (ha : Arr w (keys L) a (ns.map u64V)) (hn : ∀ n ∈ ns, n < 18446744073709551616) (_hl : ns.length ≤ 1099511627776) (hlen : bs.length + 10 * ns.length ≤ 140737488355328) :
    Cl Tryz.prog f_pack_Writer_Num [ptr b, .slice a ns.length cap] w fun _ w' => ∃ L', PackW b (bs ++ (ns.map numB).flatten) L' ∧ St w (keys L) L' w' := by
  have hS := St.enter hh
  generalize hT : keys L = T0 at hS ha ⊢
  refine en_pack_Writer_Num rfl ?_
  repeat (first | refine SemW.run tblOk ?_ | refine jA (by omega) ?_ | refine jB (by omega) ?_ | refine jC (by omega) ?_ | refine jD (by omega) ?_ | refine jE rfl ?_ | refine jF (by omega) ?_ | (refine jG ?_; first | with_reducible (first | refine jH ?_ | refine jI ?_ | refine jJ ?_ | refine jK ?_ | refine jL ?_) | refine jM (by omega) ?_ | refine jN (by omega) ?_ | with_reducible refine jM rfl ?_ | refine jM (by assumption) ?_ | refine jN (by assumption) ?_ | refine jM (by decide) ?_ | refine jN (by decide) ?_) | refine jF (ptr_ok tblOk rfl rfl) ?_ | refine jO (fun _ => by kernel_rfl) ?_ | refine jF (by decide) ?_)
  refine SemW.loop (fun k : Nat => [(0, ptr b), (6, .slice a ns.length cap), (7, .int .i64 ns.length), (8, .int .i64 k)])
    (fun k w' => k ≤ ns.length ∧ ∃ L', PackW b (bs ++ ((ns.take k).map numB).flatten) L' ∧ St w T0 L' w') (fun k => ns.length - k) 0
    ⟨rfl, rfl, rfl, rfl, trivial⟩ ⟨Nat.zero_le _, L, by simpa using hW, hS⟩ ?_
  rintro k w1 ⟨hk, L1, hW1, hS⟩
  by_cases hkl : k < ns.length
  · obtain ⟨b', off', rfl, hbT, hck⟩ := ha.get (j := k) (by simp; omega)
    simp only [List.getElem_map] at hck
    have hs := numbs_succ ns k hkl
    have hnk := hn ns[k] (List.getElem_mem hkl)
    have hln := numbs_len (ns.take k) (fun n h => hn n (List.mem_of_mem_take h))
    have hlt : (ns.take k).length = k := by simp; omega
    have h10 := numB_len10 _ hnk
    repeat (first | refine SemW.run tblOk ?_ | refine jA (by omega) ?_ | refine jB (by omega) ?_ | refine jC (by omega) ?_ | refine jD (by omega) ?_ | refine jE rfl ?_ | refine jF (by omega) ?_ | (refine jG ?_; first | with_reducible (first | refine jH ?_ | refine jI ?_ | refine jJ ?_ | refine jK ?_ | refine jL ?_) | refine jM (by omega) ?_ | refine jN (by omega) ?_ | with_reducible refine jM rfl ?_ | refine jM (by assumption) ?_ | refine jN (by assumption) ?_ | refine jM (by decide) ?_ | refine jN (by decide) ?_) | refine jF (ptr_ok tblOk rfl rfl) ?_ | refine jO (fun _ => by kernel_rfl) ?_ | refine jF (by decide) ?_)
    refine hS.ldOld hbT (by simpa using hck) ?_
    repeat (first | refine SemW.run tblOk ?_ | refine jA (by omega) ?_ | refine jB (by omega) ?_ | refine jC (by omega) ?_ | refine jD (by omega) ?_ | refine jE rfl ?_ | refine jF (by omega) ?_ | (refine jG ?_; first | with_reducible (first | refine jH ?_ | refine jI ?_ | refine jJ ?_ | refine jK ?_ | refine jL ?_) | refine jM (by omega) ?_ | refine jN (by omega) ?_ | with_reducible refine jM rfl ?_ | refine jM (by assumption) ?_ | refine jN (by assumption) ?_ | refine jM (by decide) ?_ | refine jN (by decide) ?_) | refine jF (ptr_ok tblOk rfl rfl) ?_ | refine jO (fun _ => by kernel_rfl) ?_ | refine jF (by decide) ?_)
    refine SemW.loop (fun x : Nat × Bytes => [(0, ptr b), (5, u64V x.1), (6, .slice (some ⟨b', off', none⟩) ns.length cap), (7, .int .i64 ns.length), (8, .int .i64 k)])
      (fun x w' => x.2 ++ numB x.1 = numB ns[k] ∧ ∃ L', PackW b (bs ++ ((ns.take k).map numB).flatten ++ x.2) L' ∧ St w T0 L' w') (fun x => x.1) (ns[k], [])
      ⟨rfl, rfl, rfl, rfl, rfl, trivial⟩ ⟨rfl, L1, by simpa using hW1, hS⟩ ?_
    rintro ⟨m, p⟩ w2 ⟨hp, L2, hW2, hS⟩
    simp only at hp hW2 ⊢
    have hpl := congrArg List.length hp
    rw [List.length_append] at hpl
    have hpos := numB_pos m
    by_cases hm : m < 128
    · rw [numB_lt hm] at hp
      repeat (first | refine SemW.run tblOk ?_ | refine jA (by omega) ?_ | refine jB (by omega) ?_ | refine jC (by omega) ?_ | refine jD (by omega) ?_ | refine jE rfl ?_ | refine jF (by omega) ?_ | (refine jG ?_; first | with_reducible (first | refine jH ?_ | refine jI ?_ | refine jJ ?_ | refine jK ?_ | refine jL ?_) | refine jM (by omega) ?_ | refine jN (by omega) ?_ | with_reducible refine jM rfl ?_ | refine jM (by assumption) ?_ | refine jN (by assumption) ?_ | refine jM (by decide) ?_ | refine jN (by decide) ?_) | refine jF (ptr_ok tblOk rfl rfl) ?_ | refine jO (fun _ => by kernel_rfl) ?_ | refine jF (by decide) ?_)
      refine hS.al ?_
      intro r w3 _ hS
      repeat (first | refine SemW.run tblOk ?_ | refine jA (by omega) ?_ | refine jB (by omega) ?_ | refine jC (by omega) ?_ | refine jD (by omega) ?_ | refine jE rfl ?_ | refine jF (by omega) ?_ | (refine jG ?_; first | with_reducible (first | refine jH ?_ | refine jI ?_ | refine jJ ?_ | refine jK ?_ | refine jL ?_) | refine jM (by omega) ?_ | refine jN (by omega) ?_ | with_reducible refine jM rfl ?_ | refine jM (by assumption) ?_ | refine jN (by assumption) ?_ | refine jM (by decide) ?_ | refine jN (by decide) ?_) | refine jF (ptr_ok tblOk rfl rfl) ?_ | refine jO (fun _ => by kernel_rfl) ?_ | refine jF (by decide) ?_)
      refine Cl.mono (add_spec hW2 (hS.part (L := L2)) (xs := [UInt8.ofNat m]) (by rw [List.map_cons, byteV_ofNat m (by omega)]; exact hS.arr (b := r) (nodup_new hS)) (by rw [List.length_append, List.length_append, List.length_singleton]; omega)) ?_
      rintro _ w4 ⟨L3, hW3, hS'⟩
      have hS := (hS.call (L := L2) hS').sub (List.sublist_cons_self _ _)
      repeat (first | refine SemW.run tblOk ?_ | refine jA (by omega) ?_ | refine jB (by omega) ?_ | refine jC (by omega) ?_ | refine jD (by omega) ?_ | refine jE rfl ?_ | refine jF (by omega) ?_ | (refine jG ?_; first | with_reducible (first | refine jH ?_ | refine jI ?_ | refine jJ ?_ | refine jK ?_ | refine jL ?_) | refine jM (by omega) ?_ | refine jN (by omega) ?_ | with_reducible refine jM rfl ?_ | refine jM (by assumption) ?_ | refine jN (by assumption) ?_ | refine jM (by decide) ?_ | refine jN (by decide) ?_) | refine jF (ptr_ok tblOk rfl rfl) ?_ | refine jO (fun _ => by kernel_rfl) ?_ | refine jF (by decide) ?_)
      refine ⟨k + 1, ⟨rfl, rfl, rfl, rfl, trivial⟩, ⟨by omega, L3, ?_, hS⟩, by omega⟩
      rw [hs, ← hp, ← List.append_assoc, ← List.append_assoc]
      exact hW3
    · rw [numB_ge hm] at hp
      have hpos2 := numB_pos (m / 128)
      rw [numB_ge hm, List.length_cons] at hpl
      repeat (first | refine SemW.run tblOk ?_ | refine jA (by omega) ?_ | refine jB (by omega) ?_ | refine jC (by omega) ?_ | refine jD (by omega) ?_ | refine jE rfl ?_ | refine jF (by omega) ?_ | (refine jG ?_; first | with_reducible (first | refine jH ?_ | refine jI ?_ | refine jJ ?_ | refine jK ?_ | refine jL ?_) | refine jM (by omega) ?_ | refine jN (by omega) ?_ | with_reducible refine jM rfl ?_ | refine jM (by assumption) ?_ | refine jN (by assumption) ?_ | refine jM (by decide) ?_ | refine jN (by decide) ?_) | refine jF (ptr_ok tblOk rfl rfl) ?_ | refine jO (fun _ => by kernel_rfl) ?_ | refine jF (by decide) ?_)
      refine hS.al ?_
      intro r w3 _ hS
      repeat (first | refine SemW.run tblOk ?_ | refine jA (by omega) ?_ | refine jB (by omega) ?_ | refine jC (by omega) ?_ | refine jD (by omega) ?_ | refine jE rfl ?_ | refine jF (by omega) ?_ | (refine jG ?_; first | with_reducible (first | refine jH ?_ | refine jI ?_ | refine jJ ?_ | refine jK ?_ | refine jL ?_) | refine jM (by omega) ?_ | refine jN (by omega) ?_ | with_reducible refine jM rfl ?_ | refine jM (by assumption) ?_ | refine jN (by assumption) ?_ | refine jM (by decide) ?_ | refine jN (by decide) ?_) | refine jF (ptr_ok tblOk rfl rfl) ?_ | refine jO (fun _ => by kernel_rfl) ?_ | refine jF (by decide) ?_)
      refine Cl.mono (add_spec hW2 (hS.part (L := L2)) (xs := [UInt8.ofNat (m % 128 + 128)]) (by have := hS.arr (b := r) (nodup_new hS); rw [or128] at this; exact this) (by rw [List.length_append, List.length_append, List.length_singleton]; omega)) ?_
      rintro _ w4 ⟨L3, hW3, hS'⟩
      have hS := (hS.call (L := L2) hS').sub (List.sublist_cons_self _ _)
      repeat (first | refine SemW.run tblOk ?_ | refine jA (by omega) ?_ | refine jB (by omega) ?_ | refine jC (by omega) ?_ | refine jD (by omega) ?_ | refine jE rfl ?_ | refine jF (by omega) ?_ | (refine jG ?_; first | with_reducible (first | refine jH ?_ | refine jI ?_ | refine jJ ?_ | refine jK ?_ | refine jL ?_) | refine jM (by omega) ?_ | refine jN (by omega) ?_ | with_reducible refine jM rfl ?_ | refine jM (by assumption) ?_ | refine jN (by assumption) ?_ | refine jM (by decide) ?_ | refine jN (by decide) ?_) | refine jF (ptr_ok tblOk rfl rfl) ?_ | refine jO (fun _ => by kernel_rfl) ?_ | refine jF (by decide) ?_)
      refine ⟨(m / 128, p ++ [UInt8.ofNat (m % 128 + 128)]), ⟨rfl, ?_, rfl, rfl, rfl, trivial⟩, ⟨by simpa using hp, L3, by rw [← List.append_assoc]; exact hW3, hS⟩, by simp only; omega⟩
      show Value.int .u64 ((m : Int).fdiv (2 ^ 7)) = u64V (m / 128)
      rw [fdivP]; rfl
  · have hke : k = ns.length := by omega
    subst hke
    rw [List.take_length] at hW1
    repeat (first | refine SemW.run tblOk ?_ | refine jA (by omega) ?_ | refine jB (by omega) ?_ | refine jC (by omega) ?_ | refine jD (by omega) ?_ | refine jE rfl ?_ | refine jF (by omega) ?_ | (refine jG ?_; first | with_reducible (first | refine jH ?_ | refine jI ?_ | refine jJ ?_ | refine jK ?_ | refine jL ?_) | refine jM (by omega) ?_ | refine jN (by omega) ?_ | with_reducible refine jM rfl ?_ | refine jM (by assumption) ?_ | refine jN (by assumption) ?_ | refine jM (by decide) ?_ | refine jN (by decide) ?_) | refine jF (ptr_ok tblOk rfl rfl) ?_ | refine jO (fun _ => by kernel_rfl) ?_ | refine jF (by decide) ?_)
    exact ⟨L1, hW1, hS⟩

/-- A whole number's fold, as the machine does it. -/
theorem zig_eq (z : Int) (h1 : -9223372036854775808 ≤ z) (h2 : z ≤ 9223372036854775807) :
    xorI .u64 (IntKind.u64.wrap (IntKind.u64.wrap z * 2 ^ 1)) (IntKind.u64.wrap (z.fdiv (2 ^ 63))) = (zig z : Int) ∧ zig z < 18446744073709551616 := by
  unfold zig
  by_cases h0 : 0 ≤ z
  · rw [if_pos h0]
    obtain ⟨n, rfl⟩ := Int.eq_ofNat_of_zero_le h0
    have e0 : ((n : Nat) : Int).toNat = n := Int.toNat_natCast n
    have e1 : IntKind.u64.wrap ((n : Nat) : Int) = (n : Int) := by rw [wrapU .u64 rfl]; congr 1; exact Nat.mod_eq_of_lt (by show n < 18446744073709551616; omega)
    have e2 : IntKind.u64.wrap ((n : Int) * 2 ^ 1) = ((2 * n : Nat) : Int) := by
      rw [show ((n : Nat) : Int) * 2 ^ 1 = ((2 * n : Nat) : Int) by omega, wrapU .u64 rfl]; congr 1; exact Nat.mod_eq_of_lt (by show 2 * n < 18446744073709551616; omega)
    have e3 : ((n : Nat) : Int).fdiv (2 ^ 63) = ((0 : Nat) : Int) := by
      rw [fdivP]; congr 1; exact Nat.div_eq_of_lt (by omega)
    have e4 : IntKind.u64.wrap ((0 : Nat) : Int) = ((0 : Nat) : Int) := by rw [wrapU .u64 rfl]; rfl
    rw [e0, e1, e2, e3, e4, xorU .u64 rfl _ _ (by show 2 * n < 18446744073709551616; omega) (by decide), Nat.xor_zero]
    exact ⟨rfl, by omega⟩
  · rw [if_neg h0]
    obtain ⟨n, hn⟩ : ∃ n : Nat, z = -(n : Int) - 1 := ⟨(-(z + 1)).toNat, by omega⟩
    subst hn
    have hn9 : n < 9223372036854775808 := by omega
    have e0 : (-(-(n : Int) - 1 + 1)).toNat = n := by omega
    have e1 : IntKind.u64.wrap (-(n : Int) - 1) = ((18446744073709551615 - n : Nat) : Int) := by
      unfold IntKind.wrap; simp only [IntKind.signed, IntKind.bits]; simp; omega
    have e2 : IntKind.u64.wrap (((18446744073709551615 - n : Nat) : Int) * 2 ^ 1) = ((18446744073709551614 - 2 * n : Nat) : Int) := by
      rw [show ((18446744073709551615 - n : Nat) : Int) * 2 ^ 1 = ((2 * (18446744073709551615 - n) : Nat) : Int) by omega, wrapU .u64 rfl]; congr 1
      show 2 * (18446744073709551615 - n) % 18446744073709551616 = _; omega
    have e3 : (-(n : Int) - 1).fdiv (2 ^ 63) = -1 := by
      rw [Int.fdiv_eq_ediv_of_nonneg _ (by decide)]; omega
    have e4 : IntKind.u64.wrap (-1) = ((18446744073709551615 : Nat) : Int) := by decide
    rw [e0, e1, e2, e3, e4, xorU .u64 rfl _ _ (by show _ < 18446744073709551616; omega) (by decide)]
    have e5 : (18446744073709551614 - 2 * n) ^^^ 18446744073709551615 = 2 * n + 1 := by
      have h1 : (BitVec.ofNat 64 (18446744073709551614 - 2 * n) ^^^ BitVec.allOnes 64).toNat = (18446744073709551614 - 2 * n) ^^^ 18446744073709551615 := by
        rw [BitVec.toNat_xor, BitVec.toNat_allOnes, BitVec.toNat_ofNat, Nat.mod_eq_of_lt (by omega)]
      rw [← h1, BitVec.xor_allOnes, BitVec.toNat_not, BitVec.toNat_ofNat, Nat.mod_eq_of_lt (by omega)]; omega
    rw [e5]
    exact ⟨rfl, by omega⟩
theorem ints_succ (zs : List Int) (k : Nat) (hk : k < zs.length) : intsB (zs.take (k + 1)) = intsB (zs.take k) ++ intB zs[k] := by
  unfold intsB
  rw [List.take_succ_eq_append_getElem hk, List.map_append, List.flatten_append, List.map_cons, List.map_nil, List.flatten_cons, List.flatten_nil, List.append_nil]
def i64ok (z : Int) : Prop := -9223372036854775808 ≤ z ∧ z ≤ 9223372036854775807
theorem ints_len (zs : List Int) (h : ∀ z ∈ zs, i64ok z) : (intsB zs).length ≤ 10 * zs.length := by
  induction zs with
  | nil => simp [intsB]
  | cons z r ih =>
    have h1 := numB_len10 (zig z) (zig_eq z (h z (by simp)).1 (h z (by simp)).2).2
    have h2 := ih (fun m hm => h m (List.mem_cons_of_mem _ hm))
    simp only [intsB, List.map_cons, List.flatten_cons, List.length_append, List.length_cons, intB] at h2 ⊢; omega
set_option maxHeartbeats 1000000 in
theorem Int_spec {w : World} {b : Nat} {bs : Bytes} {L : Heap} (hW : PackW b bs L) (hh : Holds L w) {a : Option Addr} {cap : Nat} {zs : List Int} (ha : Arr w (keys L) a (zs.map intV)) (hn : ∀ z ∈ zs, i64ok z) (_hl : zs.length ≤ 1099511627776) (hlen : bs.length + 10 * zs.length ≤ 140737488355328) :
    Cl Tryz.prog f_pack_Writer_Int [ptr b, .slice a zs.length cap] w fun _ w' => ∃ L', PackW b (bs ++ intsB zs) L' ∧ St w (keys L) L' w' := by
  have hS := St.enter hh
  generalize hT : keys L = T0 at hS ha ⊢
  refine en_pack_Writer_Int rfl ?_
  repeat (first | refine SemW.run tblOk ?_ | refine jA (by omega) ?_ | refine jB (by omega) ?_ | refine jC (by omega) ?_ | refine jD (by omega) ?_ | refine jE rfl ?_ | refine jF (by omega) ?_ | (refine jG ?_; first | with_reducible (first | refine jH ?_ | refine jI ?_ | refine jJ ?_ | refine jK ?_ | refine jL ?_) | refine jM (by omega) ?_ | refine jN (by omega) ?_ | with_reducible refine jM rfl ?_ | refine jM (by assumption) ?_ | refine jN (by assumption) ?_ | refine jM (by decide) ?_ | refine jN (by decide) ?_) | refine jF (ptr_ok tblOk rfl rfl) ?_ | refine jO (fun _ => by kernel_rfl) ?_ | refine jF (by decide) ?_)
  refine SemW.loop (fun k : Nat => [(0, ptr b), (6, .slice a zs.length cap), (7, .int .i64 zs.length), (8, .int .i64 k)])
    (fun k w' => k ≤ zs.length ∧ ∃ L', PackW b (bs ++ intsB (zs.take k)) L' ∧ St w T0 L' w') (fun k => zs.length - k) 0
    ⟨rfl, rfl, rfl, rfl, trivial⟩ ⟨Nat.zero_le _, L, by simpa [intsB] using hW, hS⟩ ?_
  rintro k w1 ⟨hk, L1, hW1, hS⟩
  by_cases hkl : k < zs.length
  · obtain ⟨b', off', rfl, hbT, hck⟩ := ha.get (j := k) (by simp; omega)
    simp only [List.getElem_map] at hck
    have hs := ints_succ zs k hkl
    obtain ⟨hr1, hr2⟩ := hn zs[k] (List.getElem_mem hkl)
    obtain ⟨hz1, hz2⟩ := zig_eq zs[k] hr1 hr2
    have hln := ints_len (zs.take k) (fun n h => hn n (List.mem_of_mem_take h))
    have hlt : (zs.take k).length = k := by simp; omega
    repeat (first | refine SemW.run tblOk ?_ | refine jA (by omega) ?_ | refine jB (by omega) ?_ | refine jC (by omega) ?_ | refine jD (by omega) ?_ | refine jE rfl ?_ | refine jF (by omega) ?_ | (refine jG ?_; first | with_reducible (first | refine jH ?_ | refine jI ?_ | refine jJ ?_ | refine jK ?_ | refine jL ?_) | refine jM (by omega) ?_ | refine jN (by omega) ?_ | with_reducible refine jM rfl ?_ | refine jM (by assumption) ?_ | refine jN (by assumption) ?_ | refine jM (by decide) ?_ | refine jN (by decide) ?_) | refine jF (ptr_ok tblOk rfl rfl) ?_ | refine jO (fun _ => by kernel_rfl) ?_ | refine jF (by decide) ?_)
    refine hS.ldOld hbT (by simpa using hck) ?_
    repeat (first | refine SemW.run tblOk ?_ | refine jA (by omega) ?_ | refine jB (by omega) ?_ | refine jC (by omega) ?_ | refine jD (by omega) ?_ | refine jE rfl ?_ | refine jF (by omega) ?_ | (refine jG ?_; first | with_reducible (first | refine jH ?_ | refine jI ?_ | refine jJ ?_ | refine jK ?_ | refine jL ?_) | refine jM (by omega) ?_ | refine jN (by omega) ?_ | with_reducible refine jM rfl ?_ | refine jM (by assumption) ?_ | refine jN (by assumption) ?_ | refine jM (by decide) ?_ | refine jN (by decide) ?_) | refine jF (ptr_ok tblOk rfl rfl) ?_ | refine jO (fun _ => by kernel_rfl) ?_ | refine jF (by decide) ?_)
    refine hS.al ?_
    intro r w3 _ hS
    repeat (first | refine SemW.run tblOk ?_ | refine jA (by omega) ?_ | refine jB (by omega) ?_ | refine jC (by omega) ?_ | refine jD (by omega) ?_ | refine jE rfl ?_ | refine jF (by omega) ?_ | (refine jG ?_; first | with_reducible (first | refine jH ?_ | refine jI ?_ | refine jJ ?_ | refine jK ?_ | refine jL ?_) | refine jM (by omega) ?_ | refine jN (by omega) ?_ | with_reducible refine jM rfl ?_ | refine jM (by assumption) ?_ | refine jN (by assumption) ?_ | refine jM (by decide) ?_ | refine jN (by decide) ?_) | refine jF (ptr_ok tblOk rfl rfl) ?_ | refine jO (fun _ => by kernel_rfl) ?_ | refine jF (by decide) ?_)
    refine Cl.mono (Num_spec hW1 (hS.part (L := L1)) (ns := [zig zs[k]]) (by have := hS.arr (b := r) (nodup_new hS); rw [show min (Int.toNat 1) IntKind.u64.bits = 1 from rfl, show min (Int.toNat 63) IntKind.i64.bits = 63 from rfl, hz1] at this; exact this) (by simpa using hz2) (by simp) (by rw [List.length_append, List.length_singleton]; omega)) ?_
    rintro _ w4 ⟨L3, hW3, hS'⟩
    have hS := (hS.call (L := L1) hS').sub (List.sublist_cons_self _ _)
    repeat (first | refine SemW.run tblOk ?_ | refine jA (by omega) ?_ | refine jB (by omega) ?_ | refine jC (by omega) ?_ | refine jD (by omega) ?_ | refine jE rfl ?_ | refine jF (by omega) ?_ | (refine jG ?_; first | with_reducible (first | refine jH ?_ | refine jI ?_ | refine jJ ?_ | refine jK ?_ | refine jL ?_) | refine jM (by omega) ?_ | refine jN (by omega) ?_ | with_reducible refine jM rfl ?_ | refine jM (by assumption) ?_ | refine jN (by assumption) ?_ | refine jM (by decide) ?_ | refine jN (by decide) ?_) | refine jF (ptr_ok tblOk rfl rfl) ?_ | refine jO (fun _ => by kernel_rfl) ?_ | refine jF (by decide) ?_)
    refine ⟨k + 1, ⟨rfl, rfl, rfl, rfl, trivial⟩, ⟨by omega, L3, ?_, hS⟩, by omega⟩
    rw [hs, ← List.append_assoc]
    simpa [intB] using hW3
  · have hke : k = zs.length := by omega
    subst hke
    rw [List.take_length] at hW1
    repeat (first | refine SemW.run tblOk ?_ | refine jA (by omega) ?_ | refine jB (by omega) ?_ | refine jC (by omega) ?_ | refine jD (by omega) ?_ | refine jE rfl ?_ | refine jF (by omega) ?_ | (refine jG ?_; first | with_reducible (first | refine jH ?_ | refine jI ?_ | refine jJ ?_ | refine jK ?_ | refine jL ?_) | refine jM (by omega) ?_ | refine jN (by omega) ?_ | with_reducible refine jM rfl ?_ | refine jM (by assumption) ?_ | refine jN (by assumption) ?_ | refine jM (by decide) ?_ | refine jN (by decide) ?_) | refine jF (ptr_ok tblOk rfl rfl) ?_ | refine jO (fun _ => by kernel_rfl) ?_ | refine jF (by decide) ?_)
    exact ⟨L1, hW1, hS⟩

theorem Bytes_spec {w : World} {b : Nat} {bs : Bytes} {L : Heap} (hW : PackW b bs L) (hh : Holds L w) : Cl Tryz.prog f_pack_Writer_Bytes [ptr b] w fun v w' => v = Str bs ∧ St w (keys L) L w' := by
  have hS := St.enter hh
  generalize hT : keys L = T0 at hS ⊢
  obtain ⟨a0, c0, L0, hv⟩ := hW
  refine en_pack_Writer_Bytes rfl ?_
  repeat (first | refine SemW.run tblOk ?_ | refine jA (by omega) ?_ | refine jB (by omega) ?_ | refine jC (by omega) ?_ | refine jD (by omega) ?_ | refine jE rfl ?_ | refine jF (by omega) ?_ | (refine jG ?_; first | with_reducible (first | refine jH ?_ | refine jI ?_ | refine jJ ?_ | refine jK ?_ | refine jL ?_) | refine jM (by omega) ?_ | refine jN (by omega) ?_ | with_reducible refine jM rfl ?_ | refine jM (by assumption) ?_ | refine jN (by assumption) ?_ | refine jM (by decide) ?_ | refine jN (by decide) ?_) | refine jF (ptr_ok tblOk rfl rfl) ?_ | refine jO (fun _ => by kernel_rfl) ?_ | refine jF (by decide) ?_ | refine hS.ld rfl ?_ | refine hS.ldn rfl ?_ | (refine hS.st rfl rfl ?_; intro _ hS))
  refine toStr (T := []) tblOk rfl rfl rfl rfl rfl rfl (bs := bs) rfl (fun w' hw' => by subst hw'; exact hv.arr hS (by simp)) ?_
  repeat (first | refine SemW.run tblOk ?_ | refine jA (by omega) ?_ | refine jB (by omega) ?_ | refine jC (by omega) ?_ | refine jD (by omega) ?_ | refine jE rfl ?_ | refine jF (by omega) ?_ | (refine jG ?_; first | with_reducible (first | refine jH ?_ | refine jI ?_ | refine jJ ?_ | refine jK ?_ | refine jL ?_) | refine jM (by omega) ?_ | refine jN (by omega) ?_ | with_reducible refine jM rfl ?_ | refine jM (by assumption) ?_ | refine jN (by assumption) ?_ | refine jM (by decide) ?_ | refine jN (by decide) ?_) | refine jF (ptr_ok tblOk rfl rfl) ?_ | refine jO (fun _ => by kernel_rfl) ?_ | refine jF (by decide) ?_)
  exact ⟨rfl, hS⟩
end Go.Proofs.YthpmmfapolcaiaaGreatDoor

/- Package pack: the writer's texts. -/
namespace Go.Proofs.YthpmmfapolcaiaaGreatDoor
open Go Go.Eng Go.Proofs
def textsB (ss : List Bytes) : Bytes := (ss.map textB).flatten
theorem texts_succ (ss : List Bytes) (k : Nat) (hk : k < ss.length) : textsB (ss.take (k + 1)) = textsB (ss.take k) ++ textB ss[k] := by
  unfold textsB
  rw [List.take_succ_eq_append_getElem hk, List.map_append, List.flatten_append, List.map_cons, List.map_nil, List.flatten_cons, List.flatten_nil, List.append_nil]
theorem texts_len (ss : List Bytes) (h : sumLen ss ≤ 18446744073709551615) : (textsB ss).length ≤ 10 * ss.length + sumLen ss := by
  induction ss with
  | nil => simp [textsB]
  | cons z r ih =>
    have e : sumLen (z :: r) = z.length + sumLen r := by simp [sumLen]
    have h1 := numB_len10 z.length (by omega)
    have h2 := ih (by omega)
    rw [e]
    simp only [textsB, List.map_cons, List.flatten_cons, List.length_append, List.length_cons, textB] at h2 ⊢; omega
set_option maxHeartbeats 1000000 in
theorem Text_spec {w : World} {b : Nat} {bs : Bytes} {L : Heap} (hW : PackW b bs L) (hh : Holds L w) {a : Option Addr} {cap : Nat} {ss : List Bytes} (ha : Arr w (keys L) a (ss.map Str)) (hlen : bs.length + 10 * ss.length + sumLen ss ≤ 140737488355328) :
    Cl Tryz.prog f_pack_Writer_Text [ptr b, .slice a ss.length cap] w fun _ w' => ∃ L', PackW b (bs ++ textsB ss) L' ∧ St w (keys L) L' w' := by
  have hS := St.enter hh
  generalize hT : keys L = T0 at hS ha ⊢
  refine en_pack_Writer_Text rfl ?_
  repeat (first | refine SemW.run tblOk ?_ | refine jA (by omega) ?_ | refine jB (by omega) ?_ | refine jC (by omega) ?_ | refine jD (by omega) ?_ | refine jE rfl ?_ | refine jF (by omega) ?_ | (refine jG ?_; first | with_reducible (first | refine jH ?_ | refine jI ?_ | refine jJ ?_ | refine jK ?_ | refine jL ?_) | refine jM (by omega) ?_ | refine jN (by omega) ?_ | with_reducible refine jM rfl ?_ | refine jM (by assumption) ?_ | refine jN (by assumption) ?_ | refine jM (by decide) ?_ | refine jN (by decide) ?_) | refine jF (ptr_ok tblOk rfl rfl) ?_ | refine jO (fun _ => by kernel_rfl) ?_ | refine jF (by decide) ?_)
  refine SemW.loop (fun k : Nat => [(0, ptr b), (6, .slice a ss.length cap), (7, .int .i64 ss.length), (8, .int .i64 k)])
    (fun k w' => k ≤ ss.length ∧ ∃ L', PackW b (bs ++ textsB (ss.take k)) L' ∧ St w T0 L' w') (fun k => ss.length - k) 0
    ⟨rfl, rfl, rfl, rfl, trivial⟩ ⟨Nat.zero_le _, L, by simpa [textsB] using hW, hS⟩ ?_
  rintro k w1 ⟨hk, L1, hW1, hS⟩
  by_cases hkl : k < ss.length
  · obtain ⟨b', off', rfl, hbT, hck⟩ := ha.get (j := k) (by simp; omega)
    simp only [List.getElem_map] at hck
    have hs := texts_succ ss k hkl
    have h1 := sumLen_take ss k hkl
    have h2 := sumLen_take_le ss (k + 1)
    have hln := texts_len (ss.take k) (by omega)
    have hlt : (ss.take k).length = k := by simp; omega
    have h10 := numB_len10 ss[k].length (by omega)
    repeat (first | refine SemW.run tblOk ?_ | refine jA (by omega) ?_ | refine jB (by omega) ?_ | refine jC (by omega) ?_ | refine jD (by omega) ?_ | refine jE rfl ?_ | refine jF (by omega) ?_ | (refine jG ?_; first | with_reducible (first | refine jH ?_ | refine jI ?_ | refine jJ ?_ | refine jK ?_ | refine jL ?_) | refine jM (by omega) ?_ | refine jN (by omega) ?_ | with_reducible refine jM rfl ?_ | refine jM (by assumption) ?_ | refine jN (by assumption) ?_ | refine jM (by decide) ?_ | refine jN (by decide) ?_) | refine jF (ptr_ok tblOk rfl rfl) ?_ | refine jO (fun _ => by kernel_rfl) ?_ | refine jF (by decide) ?_)
    refine hS.ldOld hbT (by simpa using hck) ?_
    repeat (first | refine SemW.run tblOk ?_ | refine jA (by omega) ?_ | refine jB (by omega) ?_ | refine jC (by omega) ?_ | refine jD (by omega) ?_ | refine jE rfl ?_ | refine jF (by omega) ?_ | (refine jG ?_; first | with_reducible (first | refine jH ?_ | refine jI ?_ | refine jJ ?_ | refine jK ?_ | refine jL ?_) | refine jM (by omega) ?_ | refine jN (by omega) ?_ | with_reducible refine jM rfl ?_ | refine jM (by assumption) ?_ | refine jN (by assumption) ?_ | refine jM (by decide) ?_ | refine jN (by decide) ?_) | refine jF (ptr_ok tblOk rfl rfl) ?_ | refine jO (fun _ => by kernel_rfl) ?_ | refine jF (by decide) ?_)
    refine hS.al ?_
    intro r w3 _ hS
    repeat (first | refine SemW.run tblOk ?_ | refine jA (by omega) ?_ | refine jB (by omega) ?_ | refine jC (by omega) ?_ | refine jD (by omega) ?_ | refine jE rfl ?_ | refine jF (by omega) ?_ | (refine jG ?_; first | with_reducible (first | refine jH ?_ | refine jI ?_ | refine jJ ?_ | refine jK ?_ | refine jL ?_) | refine jM (by omega) ?_ | refine jN (by omega) ?_ | with_reducible refine jM rfl ?_ | refine jM (by assumption) ?_ | refine jN (by assumption) ?_ | refine jM (by decide) ?_ | refine jN (by decide) ?_) | refine jF (ptr_ok tblOk rfl rfl) ?_ | refine jO (fun _ => by kernel_rfl) ?_ | refine jF (by decide) ?_)
    refine Cl.mono (Num_spec hW1 (hS.part (L := L1)) (ns := [ss[k].length]) (hS.arr (b := r) (nodup_new hS)) (by simp; omega) (by simp) (by rw [List.length_append, List.length_singleton]; omega)) ?_
    rintro _ w4 ⟨L3, hW3, hS'⟩
    have hS := (hS.call (L := L1) hS').sub (List.sublist_cons_self _ _)
    have hW3 : PackW b (bs ++ textsB (ss.take k) ++ numB ss[k].length) L3 := by simpa using hW3
    repeat (first | refine SemW.run tblOk ?_ | refine jA (by omega) ?_ | refine jB (by omega) ?_ | refine jC (by omega) ?_ | refine jD (by omega) ?_ | refine jE rfl ?_ | refine jF (by omega) ?_ | (refine jG ?_; first | with_reducible (first | refine jH ?_ | refine jI ?_ | refine jJ ?_ | refine jK ?_ | refine jL ?_) | refine jM (by omega) ?_ | refine jN (by omega) ?_ | with_reducible refine jM rfl ?_ | refine jM (by assumption) ?_ | refine jN (by assumption) ?_ | refine jM (by decide) ?_ | refine jN (by decide) ?_) | refine jF (ptr_ok tblOk rfl rfl) ?_ | refine jO (fun _ => by kernel_rfl) ?_ | refine jF (by decide) ?_)
    refine St.toBytes tblOk rfl rfl rfl rfl rfl rfl hS ?_
    intro r2 c2 z fz w5 hc hS
    repeat (first | refine SemW.run tblOk ?_ | refine jA (by omega) ?_ | refine jB (by omega) ?_ | refine jC (by omega) ?_ | refine jD (by omega) ?_ | refine jE rfl ?_ | refine jF (by omega) ?_ | (refine jG ?_; first | with_reducible (first | refine jH ?_ | refine jI ?_ | refine jJ ?_ | refine jK ?_ | refine jL ?_) | refine jM (by omega) ?_ | refine jN (by omega) ?_ | with_reducible refine jM rfl ?_ | refine jM (by assumption) ?_ | refine jN (by assumption) ?_ | refine jM (by decide) ?_ | refine jN (by decide) ?_) | refine jF (ptr_ok tblOk rfl rfl) ?_ | refine jO (fun _ => by kernel_rfl) ?_ | refine jF (by decide) ?_)
    refine Cl.mono (add_spec hW3 (hS.part (L := L3)) (xs := ss[k]) (Arr.take (hS.arr (b := r2) (nodup_new hS))) (by rw [List.length_append, List.length_append]; omega)) ?_
    rintro _ w6 ⟨L4, hW4, hS'⟩
    have hS := (hS.call (L := L3) hS').sub (List.sublist_cons_self _ _)
    repeat (first | refine SemW.run tblOk ?_ | refine jA (by omega) ?_ | refine jB (by omega) ?_ | refine jC (by omega) ?_ | refine jD (by omega) ?_ | refine jE rfl ?_ | refine jF (by omega) ?_ | (refine jG ?_; first | with_reducible (first | refine jH ?_ | refine jI ?_ | refine jJ ?_ | refine jK ?_ | refine jL ?_) | refine jM (by omega) ?_ | refine jN (by omega) ?_ | with_reducible refine jM rfl ?_ | refine jM (by assumption) ?_ | refine jN (by assumption) ?_ | refine jM (by decide) ?_ | refine jN (by decide) ?_) | refine jF (ptr_ok tblOk rfl rfl) ?_ | refine jO (fun _ => by kernel_rfl) ?_ | refine jF (by decide) ?_)
    refine ⟨k + 1, ⟨rfl, rfl, rfl, rfl, trivial⟩, ⟨by omega, L4, ?_, hS⟩, by omega⟩
    rw [hs, textB]
    simpa using hW4
  · have hke : k = ss.length := by omega
    subst hke
    rw [List.take_length] at hW1
    repeat (first | refine SemW.run tblOk ?_ | refine jA (by omega) ?_ | refine jB (by omega) ?_ | refine jC (by omega) ?_ | refine jD (by omega) ?_ | refine jE rfl ?_ | refine jF (by omega) ?_ | (refine jG ?_; first | with_reducible (first | refine jH ?_ | refine jI ?_ | refine jJ ?_ | refine jK ?_ | refine jL ?_) | refine jM (by omega) ?_ | refine jN (by omega) ?_ | with_reducible refine jM rfl ?_ | refine jM (by assumption) ?_ | refine jN (by assumption) ?_ | refine jM (by decide) ?_ | refine jN (by decide) ?_) | refine jF (ptr_ok tblOk rfl rfl) ?_ | refine jO (fun _ => by kernel_rfl) ?_ | refine jF (by decide) ?_)
    exact ⟨L1, hW1, hS⟩
end Go.Proofs.YthpmmfapolcaiaaGreatDoor

/- Plain: the bytes of rows, flights, passengers. -/
namespace Go.Proofs.YthpmmfapolcaiaaGreatDoor
open Go Go.Eng Go.Proofs

/-- Marks as one number. -/
def marksN : List Bool → Nat
  | [] => 0
  | b :: l => (if b then 1 else 0) + 2 * marksN l
theorem marksN_lt : ∀ l, marksN l < 2 ^ l.length
  | [] => by simp [marksN]
  | b :: l => by
    have := marksN_lt l
    rw [marksN, List.length_cons, Nat.pow_succ]
    split <;> omega
theorem marksN_snoc : ∀ (l : List Bool) (b : Bool), marksN (l ++ [b]) = marksN l + (if b then 2 ^ l.length else 0)
  | [], b => by simp [marksN]
  | c :: l, b => by
    rw [List.cons_append, marksN, marksN_snoc l b, marksN, List.length_cons, Nat.pow_succ]
    split <;> split <;> omega
def rowB (r : RowM) : Bytes := intsB [r.num, r.cab, r.zone] ++ (numB (marksN [r.exit]) ++ textsB [r.seats])
def rowsBt (rs : List RowM) : Bytes := (rs.map rowB).flatten
def equipB (e : EquipM) : Bytes := numB e.rows.length ++ rowsBt e.rows
theorem i64ok_of {n : Int} (h : i64b n) : i64ok n := h
theorem rowB_len (r : RowM) (h : r.ok) (hs : r.seats.length ≤ 8388608) : (rowB r).length ≤ 50 + r.seats.length := by
  have h1 := ints_len [r.num, r.cab, r.zone] (by
    intro z hz
    simp only [List.mem_cons, List.mem_nil_iff, or_false] at hz
    rcases hz with rfl | rfl | rfl
    · exact h.num
    · exact h.cab
    · exact h.zone)
  have h2 := texts_len [r.seats] (by simp [sumLen]; omega)
  have h3 := marksN_lt [r.exit]
  have h4 := numB_len10 (marksN [r.exit]) (by have h3' : marksN [r.exit] < 2 := h3; omega)
  have h5 : sumLen [r.seats] = r.seats.length := by simp [sumLen]
  simp only [List.length_cons, List.length_nil] at h1 h2
  unfold rowB
  simp only [List.length_append]; omega
def rowsW (rs : List RowM) : Nat := (rs.map fun r => r.seats.length + 6).sum
theorem rowsW_at (rs : List RowM) (k : Nat) (hk : k < rs.length) : rs[k].seats.length + 6 ≤ rowsW rs := by
  induction rs generalizing k with
  | nil => simp at hk
  | cons r rs ih =>
    unfold rowsW at *
    rw [List.map_cons, List.sum_cons]
    cases k with
    | zero => simp
    | succ k => have := ih k (by simpa using hk); rw [List.getElem_cons_succ]; omega
theorem rowsW_len (rs : List RowM) : 6 * rs.length ≤ rowsW rs := by
  induction rs with
  | nil => simp
  | cons r rs ih => unfold rowsW at *; rw [List.map_cons, List.sum_cons, List.length_cons]; omega
theorem rowsBt_len (rs : List RowM) (h : ∀ r ∈ rs, r.ok) (hw : rowsW rs ≤ 8388608) : (rowsBt rs).length ≤ 50 * rowsW rs := by
  induction rs with
  | nil => simp [rowsBt]
  | cons r rs ih =>
    have h1 : rowsW (r :: rs) = r.seats.length + 6 + rowsW rs := by simp [rowsW]
    have h2 := rowB_len r (h r List.mem_cons_self) (by omega)
    have h3 := ih (fun q hq => h q (List.mem_cons_of_mem _ hq)) (by omega)
    simp only [rowsBt, List.map_cons, List.flatten_cons, List.length_append] at h3 ⊢
    omega
theorem rowsBt_succ (rs : List RowM) (k : Nat) (hk : k < rs.length) : rowsBt (rs.take (k + 1)) = rowsBt (rs.take k) ++ rowB rs[k] := by
  unfold rowsBt
  rw [List.take_succ_eq_append_getElem hk, List.map_append, List.flatten_append]; simp
theorem rowsW_take (rs : List RowM) (k : Nat) : rowsW (rs.take k) ≤ rowsW rs := by
  have h := congrArg (fun l => (l.map fun r : RowM => r.seats.length + 6).sum) (List.take_append_drop k rs)
  simp only [List.map_append, List.sum_append] at h
  unfold rowsW; omega
def flightB (f : FlightM) : Bytes := intsB [f.equip, f.phase, f.seq] ++ intsB [f.l0, f.l1, f.l2, f.l3]
def seatB (num : Int) (c : Nat) : Bytes := if num = 0 ∧ c = 0 then [] else labelB num c
def paxB (p : PaxM) : Bytes := intsB [p.flight, p.cab, p.cls, p.status, p.tick, p.pass] ++ numB (marksN [p.fit, p.infant, p.vol, p.stb]) ++ textB (seatB p.num p.c)
theorem seatB_len (n : Int) (c : Nat) : (seatB n c).length ≤ 3 := by
  unfold seatB; split
  · simp
  · exact (labelB_len n c).2
theorem FlightM.ok.limits {f : FlightM} (hf : f.ok) : ∀ z ∈ [f.l0, f.l1, f.l2, f.l3], i64ok z := by
  intro z hz
  simp only [List.mem_cons, List.mem_nil_iff, or_false] at hz
  rcases hz with rfl | rfl | rfl | rfl
  · exact hf.l0
  · exact hf.l1
  · exact hf.l2
  · exact hf.l3
theorem FlightM.ok.head {f : FlightM} (hf : f.ok) : ∀ z ∈ [f.equip, f.phase, f.seq], i64ok z := by
  intro z hz
  simp only [List.mem_cons, List.mem_nil_iff, or_false] at hz
  rcases hz with rfl | rfl | rfl
  · exact hf.equip
  · exact hf.phase
  · exact hf.seq
theorem PaxM.ok.head {p : PaxM} (h : p.ok) : ∀ z ∈ [p.flight, p.cab, p.cls, p.status, p.tick, p.pass], i64ok z := by
  intro z hz
  simp only [List.mem_cons, List.mem_nil_iff, or_false] at hz
  rcases hz with rfl | rfl | rfl | rfl | rfl | rfl
  · exact h.flight
  · exact h.cab
  · exact h.cls
  · exact h.status
  · exact h.tick
  · exact h.pass
theorem marks4_lt (a b c d : Bool) : marksN [a, b, c, d] < 16 := marksN_lt [a, b, c, d]
end Go.Proofs.YthpmmfapolcaiaaGreatDoor

/- Plain laws of reading: numbers, texts. -/
namespace Go.Proofs.YthpmmfapolcaiaaGreatDoor
open Go Go.Eng

/-- The number that begins a text's rest behind k bytes of it; what stands behind the number. -/
def numS : Nat → Bytes → Option (Nat × Bytes)
  | _, [] => none
  | k, c :: u => if 9 < k ∨ (k = 9 ∧ 1 < c.toNat) ∨ (0 < k ∧ c.toNat = 0) then none
    else if c.toNat < 128 then some (c.toNat, u)
    else match numS (k + 1) u with
      | some (m, r) => some (c.toNat % 128 + 128 * m, r)
      | none => none
theorem u8_ofNat (c : UInt8) : UInt8.ofNat c.toNat = c := by simp
theorem numS_some : ∀ (u : Bytes) (k m : Nat) (r : Bytes), numS k u = some (m, r) → u = numB m ++ r ∧ (0 < k → 0 < m) ∧ k ≤ 9 ∧ m < 2 ^ (64 - 7 * k)
  | [], k, m, r, h => by simp [numS] at h
  | c :: u, k, m, r, h => by
    have hc := c.toNat_lt
    rw [numS] at h
    split at h
    · cases h
    · rename_i h1
      split at h
      · rename_i h2
        simp only [Option.some.injEq, Prod.mk.injEq] at h
        obtain ⟨rfl, rfl⟩ := h
        refine ⟨by rw [numB_lt h2, u8_ofNat]; rfl, by omega, by omega, ?_⟩
        by_cases hk : k = 9
        · subst hk; show _ < 2; omega
        · exact Nat.lt_of_lt_of_le h2 (Nat.pow_le_pow_right (n := 2) (i := 7) (by omega) (by omega))
      · rename_i h2
        split at h
        · rename_i m' r' h3
          simp only [Option.some.injEq, Prod.mk.injEq] at h
          obtain ⟨rfl, rfl⟩ := h
          obtain ⟨h4, h5, h6, h7⟩ := numS_some u (k + 1) m' r' h3
          have h8 := h5 (by omega)
          refine ⟨?_, by omega, by omega, ?_⟩
          · rw [numB_ge (by omega), h4, show (c.toNat % 128 + 128 * m') % 128 + 128 = c.toNat by omega, show (c.toNat % 128 + 128 * m') / 128 = m' by omega, u8_ofNat]
            rfl
          · rw [show 64 - 7 * k = (64 - 7 * (k + 1)) + 7 by omega, Nat.pow_add]
            generalize 2 ^ (64 - 7 * (k + 1)) = P at *
            omega
        · cases h
theorem numS_app : ∀ (j m k : Nat) (r : Bytes), m < 2 ^ (64 - 7 * k) → k + j = 9 → (0 < k → 0 < m) → numS k (numB m ++ r) = some (m, r) := by
  intro j
  induction j with
  | zero =>
    intro m k r hm hk h0
    obtain rfl : k = 9 := by omega
    have hm : m < 2 := hm
    rw [numB_lt (by omega)]
    simp only [List.cons_append, List.nil_append, numS]
    have e : (UInt8.ofNat m).toNat = m := by simp; omega
    rw [e, if_neg (by omega), if_pos (by omega)]
  | succ j ih =>
    intro m k r hm hk h0
    by_cases h : m < 128
    · rw [numB_lt h]
      simp only [List.cons_append, List.nil_append, numS]
      have e : (UInt8.ofNat m).toNat = m := by simp; omega
      rw [e, if_neg (by omega), if_pos (by omega)]
    · rw [numB_ge h]
      simp only [List.cons_append, numS]
      have e : (UInt8.ofNat (m % 128 + 128)).toNat = m % 128 + 128 := by simp; omega
      rw [e, if_neg (by omega), if_neg (by omega), ih (m / 128) (k + 1) r ?_ (by omega) (by omega)]
      · simp only [Option.some.injEq, Prod.mk.injEq, and_true]; omega
      · rw [show 64 - 7 * k = (64 - 7 * (k + 1)) + 7 by omega, Nat.pow_add] at hm
        generalize 2 ^ (64 - 7 * (k + 1)) = P at *
        omega
/-- The number at the text's beginning. -/
def numR (t : Bytes) : Option (Nat × Bytes) := numS 0 t
theorem numR_iff (t : Bytes) (m : Nat) (r : Bytes) : numR t = some (m, r) ↔ t = numB m ++ r ∧ m < 18446744073709551616 := by
  constructor
  · intro h
    obtain ⟨h1, -, -, h2⟩ := numS_some t 0 m r h
    exact ⟨h1, h2⟩
  · rintro ⟨rfl, h⟩
    exact numS_app 9 m 0 r h rfl (by omega)
def unzig (u : Nat) : Int := if u % 2 = 0 then (u / 2 : Nat) else -((u / 2 : Nat) : Int) - 1
theorem unzig_zig (z : Int) : unzig (zig z) = z := by
  unfold unzig zig; split <;> split <;> omega
theorem zig_unzig (u : Nat) : zig (unzig u) = u := by
  unfold unzig zig; split <;> split <;> omega
/-- A whole number at the text's beginning. -/
def intR (t : Bytes) : Option (Int × Bytes) := match numR t with
  | some (m, r) => some (unzig m, r)
  | none => none
theorem intR_iff (t : Bytes) (z : Int) (r : Bytes) : intR t = some (z, r) ↔ t = intB z ++ r ∧ zig z < 18446744073709551616 := by
  unfold intR intB
  cases h : numR t with
  | none =>
    simp only [false_iff, reduceCtorEq]
    intro hh
    rw [(numR_iff t (zig z) r).2 hh] at h; cases h
  | some x =>
    obtain ⟨m, r'⟩ := x
    obtain ⟨h1, h2⟩ := (numR_iff t m r').1 h
    simp only [Option.some.injEq, Prod.mk.injEq]
    constructor
    · rintro ⟨rfl, rfl⟩
      rw [zig_unzig]; exact ⟨h1, h2⟩
    · rintro ⟨h3, h4⟩
      rw [(numR_iff t (zig z) r).2 ⟨h3, h4⟩] at h
      simp only [Option.some.injEq, Prod.mk.injEq] at h
      obtain ⟨rfl, rfl⟩ := h
      exact ⟨unzig_zig z, rfl⟩
/-- A text at the text's beginning. -/
def textR (t : Bytes) : Option (Bytes × Bytes) := match numR t with
  | some (m, r) => if r.length < m then none else some (r.take m, r.drop m)
  | none => none
theorem textR_iff (t s r : Bytes) : textR t = some (s, r) ↔ t = textB s ++ r ∧ s.length < 18446744073709551616 := by
  unfold textR textB
  cases h : numR t with
  | none =>
    simp only [false_iff, reduceCtorEq]
    intro hh
    rw [(numR_iff t s.length (s ++ r)).2 ⟨by rw [hh.1, List.append_assoc], hh.2⟩] at h; cases h
  | some x =>
    obtain ⟨m, r'⟩ := x
    obtain ⟨h1, h2⟩ := (numR_iff t m r').1 h
    simp only
    constructor
    · intro hh
      split at hh
      · cases hh
      · simp only [Option.some.injEq, Prod.mk.injEq] at hh
        obtain ⟨rfl, rfl⟩ := hh
        have e : (r'.take m).length = m := by simp; omega
        rw [e, List.append_assoc, List.take_append_drop]
        exact ⟨h1, h2⟩
    · rintro ⟨h3, h4⟩
      rw [(numR_iff t s.length (s ++ r)).2 ⟨by rw [h3, List.append_assoc], h4⟩] at h
      simp only [Option.some.injEq, Prod.mk.injEq] at h
      obtain ⟨rfl, rfl⟩ := h
      rw [if_neg (by simp), List.take_left, List.drop_left]
end Go.Proofs.YthpmmfapolcaiaaGreatDoor

/- Package pack: the reader. -/
namespace Go.Proofs.YthpmmfapolcaiaaGreatDoor
open Go Go.Eng Go.Proofs

abbrev rdC (t : Bytes) : Obj := .cells ⟨[Str t]⟩ T_pack_Reader (0, 0)
/-- What a read of a number answers, and what is left. -/
def numO (t : Bytes) : Nat × Int × Bytes := match numR t with
  | some (m, r) => (m, 0, r)
  | none => (0, 1, t)
theorem low7 (n c k : Nat) (hn : n < 2 ^ (7 * k)) (hc : c < 256) (hk : k ≤ 9) (h9 : k = 9 → c ≤ 1) :
    orI .u64 (n : Int) (IntKind.u64.wrap (andI .u8 (c : Int) 127 * 2 ^ (7 * k))) = ((n + c % 128 * 2 ^ (7 * k) : Nat) : Int) ∧ n + c % 128 * 2 ^ (7 * k) < 18446744073709551616 := by
  have e1 : andI .u8 (c : Int) 127 = ((c % 128 : Nat) : Int) := by
    have h := andU .u8 rfl c 127 hc (by decide)
    rw [show ((127 : Nat) : Int) = 127 from rfl] at h
    rw [h, show (127 : Nat) = 2 ^ 7 - 1 by rfl, Nat.and_two_pow_sub_one_eq_mod]
  have hb : n + c % 128 * 2 ^ (7 * k) < 18446744073709551616 := by
    have hm : c % 128 < 128 := Nat.mod_lt _ (by omega)
    by_cases h : k = 9
    · subst h
      have := h9 rfl
      have h1 : c % 128 ≤ 1 := by omega
      have h2 : c % 128 * 2 ^ (7 * 9) ≤ 1 * 2 ^ (7 * 9) := Nat.mul_le_mul_right _ h1
      omega
    · have h3 : 2 ^ (7 * k) ≤ 2 ^ (7 * 8) := Nat.pow_le_pow_right (by omega) (by omega)
      have h4 : c % 128 * 2 ^ (7 * k) ≤ 127 * 2 ^ (7 * k) := Nat.mul_le_mul_right _ (by omega)
      omega
  refine ⟨?_, hb⟩
  have e2 : ((c % 128 : Nat) : Int) * 2 ^ (7 * k) = ((c % 128 * 2 ^ (7 * k) : Nat) : Int) := by simp
  have e3 : c % 128 * 2 ^ (7 * k) % 2 ^ IntKind.u64.bits = c % 128 * 2 ^ (7 * k) := Nat.mod_eq_of_lt (show c % 128 * 2 ^ (7 * k) < 18446744073709551616 by omega)
  rw [e1, e2, wrapU .u64 rfl, e3, orU .u64 rfl _ _ (show n < 18446744073709551616 by omega) (show _ < 18446744073709551616 by omega), Nat.or_comm, or_add _ _ _ hn, Nat.add_comm]
def numJ (t : Bytes) (k n : Nat) : Prop := k ≤ 10 ∧ k ≤ t.length ∧ n < 2 ^ (7 * k) ∧ numS 0 t = match numS k (t.drop k) with
  | some (m, r) => some (n + m * 2 ^ (7 * k), r)
  | none => none
theorem numJ_fail {t : Bytes} {k n : Nat} (h : numJ t k n) (hf : numS k (t.drop k) = none) : numO t = (0, 1, t) := by
  unfold numO numR
  rw [h.2.2.2, hf]
theorem numS_stop {t : Bytes} {k : Nat} (hk : ¬ (k < 10 ∧ k < t.length)) : numS k (t.drop k) = none := by
  cases h : t.drop k with
  | nil => rfl
  | cons c u =>
    have : k < t.length := by
      have := congrArg List.length h
      simp at this; omega
    unfold numS
    rw [if_pos (by omega)]
theorem numS_at {t : Bytes} {k : Nat} (hk : k < t.length) : numS k (t.drop k) = if 9 < k ∨ (k = 9 ∧ 1 < t[k].toNat) ∨ (0 < k ∧ t[k].toNat = 0) then none
    else if t[k].toNat < 128 then some (t[k].toNat, t.drop (k + 1))
    else match numS (k + 1) (t.drop (k + 1)) with
      | some (m, r) => some (t[k].toNat % 128 + 128 * m, r)
      | none => none := by
  rw [List.drop_eq_getElem_cons hk, numS]
  all_goals rfl
theorem numJ_done {t : Bytes} {k n : Nat} (h : numJ t k n) (hk : k < t.length) (h1 : ¬ (9 < k ∨ (k = 9 ∧ 1 < t[k].toNat) ∨ (0 < k ∧ t[k].toNat = 0))) (h2 : t[k].toNat < 128) :
    numO t = (n + t[k].toNat % 128 * 2 ^ (7 * k), 0, t.drop (k + 1)) := by
  unfold numO numR
  rw [h.2.2.2, numS_at hk, if_neg h1, if_pos h2, Nat.mod_eq_of_lt h2]
theorem numJ_next {t : Bytes} {k n : Nat} (h : numJ t k n) (hk : k < t.length) (h1 : ¬ (9 < k ∨ (k = 9 ∧ 1 < t[k].toNat) ∨ (0 < k ∧ t[k].toNat = 0))) (h2 : ¬ t[k].toNat < 128) :
    numJ t (k + 1) (n + t[k].toNat % 128 * 2 ^ (7 * k)) := by
  obtain ⟨h3, h4, h5, h6⟩ := h
  refine ⟨by omega, by omega, ?_, ?_⟩
  · rw [show 7 * (k + 1) = 7 * k + 7 by omega, Nat.pow_add]
    have h4 : t[k].toNat % 128 * 2 ^ (7 * k) ≤ 127 * 2 ^ (7 * k) := Nat.mul_le_mul_right _ (by omega)
    generalize 2 ^ (7 * k) = P at *
    omega
  · rw [h6, numS_at hk, if_neg h1, if_neg h2]
    cases numS (k + 1) (t.drop (k + 1)) with
    | none => rfl
    | some x =>
      obtain ⟨m, r⟩ := x
      simp only [Option.some.injEq, Prod.mk.injEq, and_true]
      rw [show 7 * (k + 1) = 7 * k + 7 by omega, Nat.pow_add, Nat.add_mul, Nat.add_assoc]
      congr 2
      rw [show 2 ^ (7 * k) * 2 ^ 7 = 128 * 2 ^ (7 * k) by omega, Nat.mul_comm 128 m, Nat.mul_assoc]
theorem low7' (n c k : Nat) (hn : n < 2 ^ (7 * k)) (hc : c < 256) (hk : k ≤ 9) (h9 : k = 9 → c ≤ 1) :
    orI .u64 (n : Int) (IntKind.u64.wrap (IntKind.u64.wrap (andI .u8 (c : Int) 127) * 2 ^ min (7 * (k : Int)).toNat IntKind.u64.bits)) = ((n + c % 128 * 2 ^ (7 * k) : Nat) : Int) := by
  have h := (low7 n c k hn hc hk h9).1
  have e1 : andI .u8 (c : Int) 127 = ((c % 128 : Nat) : Int) := by
    have h := andU .u8 rfl c 127 hc (by decide)
    rw [show ((127 : Nat) : Int) = 127 from rfl] at h
    rw [h, show (127 : Nat) = 2 ^ 7 - 1 by rfl, Nat.and_two_pow_sub_one_eq_mod]
  have e2 : IntKind.u64.wrap (((c % 128 : Nat) : Nat) : Int) = ((c % 128 : Nat) : Int) := by
    rw [wrapU .u64 rfl]; congr 1; exact Nat.mod_eq_of_lt (by show _ < 18446744073709551616; omega)
  have e3 : min (7 * (k : Int)).toNat IntKind.u64.bits = 7 * k := by show min _ 64 = _; omega
  rw [e1] at h ⊢
  rw [e2, e3]; exact h
set_option maxHeartbeats 4000000 in
theorem RNum_spec {w : World} {b : Nat} {t : Bytes} (hh : Holds [(b, rdC t)] w) (ht : t.length ≤ 70368744177664) :
    Cl Tryz.prog f_pack_Reader_Num [ptr b] w fun v w' => v = .tuple ⟨[.int .u64 (numO t).1, .int .i64 (numO t).2.1]⟩ ∧ St w [b] [(b, rdC (numO t).2.2)] w' := by
  have hS : St w [b] [(b, rdC t)] w := St.enter hh
  refine en_pack_Reader_Num rfl ?_
  repeat (first | refine SemW.run tblOk ?_ | refine jA (by omega) ?_ | refine jB (by omega) ?_ | refine jC (by omega) ?_ | refine jD (by omega) ?_ | refine jE rfl ?_ | refine jF (by omega) ?_ | (refine jG ?_; first | with_reducible (first | refine jH ?_ | refine jI ?_ | refine jJ ?_ | refine jK ?_ | refine jL ?_) | refine jM (by omega) ?_ | refine jN (by omega) ?_ | with_reducible refine jM rfl ?_ | refine jM (by assumption) ?_ | refine jN (by assumption) ?_ | refine jM (by decide) ?_ | refine jN (by decide) ?_) | refine jF (ptr_ok tblOk rfl rfl) ?_ | refine jO (fun _ => by kernel_rfl) ?_ | refine jF (by decide) ?_)
  refine SemW.loop (fun x : Nat × Nat => [(0, ptr b), (4, .int .u64 x.2), (5, .int .i64 x.1)])
    (fun x w' => numJ t x.1 x.2 ∧ St w [b] [(b, rdC t)] w') (fun x => 10 - x.1) (0, 0)
    ⟨rfl, rfl, rfl, trivial⟩ ⟨⟨by omega, by omega, by simp, by simp only [List.drop_zero]; cases numS 0 t <;> simp⟩, hS⟩ ?_
  rintro ⟨k, n⟩ w1 ⟨hJ, hS⟩
  simp only at hJ hS ⊢
  have hkk := hJ.1
  have hkl := hJ.2.1
  by_cases hk : k < 10 ∧ k < t.length
  · obtain ⟨hk10, hkt⟩ := hk
    have hmin : ((k : Int) < min 10 (t.length : Int)) := by omega
    repeat (first | refine SemW.run tblOk ?_ | refine jA (by omega) ?_ | refine jB (by omega) ?_ | refine jC (by omega) ?_ | refine jD (by omega) ?_ | refine jE rfl ?_ | refine jF (by omega) ?_ | (refine jG ?_; first | with_reducible (first | refine jH ?_ | refine jI ?_ | refine jJ ?_ | refine jK ?_ | refine jL ?_) | refine jM (by omega) ?_ | refine jN (by omega) ?_ | with_reducible refine jM rfl ?_ | refine jM (by assumption) ?_ | refine jN (by assumption) ?_ | refine jM (by decide) ?_ | refine jN (by decide) ?_) | refine jF (ptr_ok tblOk rfl rfl) ?_ | refine jO (fun _ => by kernel_rfl) ?_ | refine jF (by decide) ?_ | refine hS.ld rfl ?_ | refine hS.ldn rfl ?_ | (refine hS.st rfl rfl ?_; intro _ hS))
    obtain ⟨c, hc⟩ : ∃ c, c = t.getD ((k : Int)).toNat 0 := ⟨_, rfl⟩
    have hct : c = t[k] := by rw [hc]; simp [hkt]
    rw [← hc]
    have hclt := c.toNat_lt
    by_cases h9 : k = 9
    · by_cases h1 : 1 < c.toNat
      · repeat (first | refine SemW.run tblOk ?_ | refine jA (by omega) ?_ | refine jB (by omega) ?_ | refine jC (by omega) ?_ | refine jD (by omega) ?_ | refine jE rfl ?_ | refine jF (by omega) ?_ | (refine jG ?_; first | with_reducible (first | refine jH ?_ | refine jI ?_ | refine jJ ?_ | refine jK ?_ | refine jL ?_) | refine jM (by omega) ?_ | refine jN (by omega) ?_ | with_reducible refine jM rfl ?_ | refine jM (by assumption) ?_ | refine jN (by assumption) ?_ | refine jM (by decide) ?_ | refine jN (by decide) ?_) | refine jF (ptr_ok tblOk rfl rfl) ?_ | refine jO (fun _ => by kernel_rfl) ?_ | refine jF (by decide) ?_ | refine hS.ld rfl ?_ | refine hS.ldn rfl ?_ | (refine hS.st rfl rfl ?_; intro _ hS))
        rw [numJ_fail hJ (by rw [numS_at hkt, if_pos (by rw [← hct]; omega)])]
        exact ⟨rfl, hS⟩
      · by_cases hz : c.toNat = 0
        · repeat (first | refine SemW.run tblOk ?_ | refine jA (by omega) ?_ | refine jB (by omega) ?_ | refine jC (by omega) ?_ | refine jD (by omega) ?_ | refine jE rfl ?_ | refine jF (by omega) ?_ | (refine jG ?_; first | with_reducible (first | refine jH ?_ | refine jI ?_ | refine jJ ?_ | refine jK ?_ | refine jL ?_) | refine jM (by omega) ?_ | refine jN (by omega) ?_ | with_reducible refine jM rfl ?_ | refine jM (by assumption) ?_ | refine jN (by assumption) ?_ | refine jM (by decide) ?_ | refine jN (by decide) ?_) | refine jF (ptr_ok tblOk rfl rfl) ?_ | refine jO (fun _ => by kernel_rfl) ?_ | refine jF (by decide) ?_ | refine hS.ld rfl ?_ | refine hS.ldn rfl ?_ | (refine hS.st rfl rfl ?_; intro _ hS))
          rw [numJ_fail hJ (by rw [numS_at hkt, if_pos (by rw [← hct]; omega)])]
          exact ⟨rfl, hS⟩
        · have hl7 := low7' n c.toNat k hJ.2.2.1 c.toNat_lt (by omega) (by omega)
          have hnb : ¬ (9 < k ∨ (k = 9 ∧ 1 < t[k].toNat) ∨ (0 < k ∧ t[k].toNat = 0)) := by rw [← hct]; omega
          have ek : ((k : Int) + 1).toNat = k + 1 := by omega
          by_cases h128 : c.toNat < 128
          · have hdn := numJ_done hJ hkt hnb (by rw [← hct]; exact h128)
            rw [← hct] at hdn
            repeat (first | refine SemW.run tblOk ?_ | refine jA (by omega) ?_ | refine jB (by omega) ?_ | refine jC (by omega) ?_ | refine jD (by omega) ?_ | refine jE rfl ?_ | refine jF (by omega) ?_ | (refine jG ?_; first | with_reducible (first | refine jH ?_ | refine jI ?_ | refine jJ ?_ | refine jK ?_ | refine jL ?_) | refine jM (by omega) ?_ | refine jN (by omega) ?_ | with_reducible refine jM rfl ?_ | refine jM (by assumption) ?_ | refine jN (by assumption) ?_ | refine jM (by decide) ?_ | refine jN (by decide) ?_) | refine jF (ptr_ok tblOk rfl rfl) ?_ | refine jO (fun _ => by kernel_rfl) ?_ | refine jF (by decide) ?_ | refine hS.ld rfl ?_ | refine hS.ldn rfl ?_ | (refine hS.st rfl rfl ?_; intro _ hS))
            rw [hdn]
            rw [ek] at hS
            exact ⟨congrArg (fun z => Value.tuple ⟨[.int .u64 z, .int .i64 0]⟩) hl7, hS⟩
          · have hnx := numJ_next hJ hkt hnb (by rw [← hct]; exact h128)
            rw [← hct] at hnx
            first
            | (exfalso; omega)
            | (repeat (first | refine SemW.run tblOk ?_ | refine jA (by omega) ?_ | refine jB (by omega) ?_ | refine jC (by omega) ?_ | refine jD (by omega) ?_ | refine jE rfl ?_ | refine jF (by omega) ?_ | (refine jG ?_; first | with_reducible (first | refine jH ?_ | refine jI ?_ | refine jJ ?_ | refine jK ?_ | refine jL ?_) | refine jM (by omega) ?_ | refine jN (by omega) ?_ | with_reducible refine jM rfl ?_ | refine jM (by assumption) ?_ | refine jN (by assumption) ?_ | refine jM (by decide) ?_ | refine jN (by decide) ?_) | refine jF (ptr_ok tblOk rfl rfl) ?_ | refine jO (fun _ => by kernel_rfl) ?_ | refine jF (by decide) ?_ | refine hS.ld rfl ?_ | refine hS.ldn rfl ?_ | (refine hS.st rfl rfl ?_; intro _ hS))
               exact ⟨(k + 1, n + c.toNat % 128 * 2 ^ (7 * k)), ⟨rfl, congrArg (Value.int .u64) hl7, rfl, trivial⟩, ⟨hnx, hS⟩, by simp only; omega⟩)
    · by_cases h0 : 0 < k
      · by_cases hz : c.toNat = 0
        · repeat (first | refine SemW.run tblOk ?_ | refine jA (by omega) ?_ | refine jB (by omega) ?_ | refine jC (by omega) ?_ | refine jD (by omega) ?_ | refine jE rfl ?_ | refine jF (by omega) ?_ | (refine jG ?_; first | with_reducible (first | refine jH ?_ | refine jI ?_ | refine jJ ?_ | refine jK ?_ | refine jL ?_) | refine jM (by omega) ?_ | refine jN (by omega) ?_ | with_reducible refine jM rfl ?_ | refine jM (by assumption) ?_ | refine jN (by assumption) ?_ | refine jM (by decide) ?_ | refine jN (by decide) ?_) | refine jF (ptr_ok tblOk rfl rfl) ?_ | refine jO (fun _ => by kernel_rfl) ?_ | refine jF (by decide) ?_ | refine hS.ld rfl ?_ | refine hS.ldn rfl ?_ | (refine hS.st rfl rfl ?_; intro _ hS))
          rw [numJ_fail hJ (by rw [numS_at hkt, if_pos (by rw [← hct]; omega)])]
          exact ⟨rfl, hS⟩
        · have hl7 := low7' n c.toNat k hJ.2.2.1 c.toNat_lt (by omega) (by omega)
          have hnb : ¬ (9 < k ∨ (k = 9 ∧ 1 < t[k].toNat) ∨ (0 < k ∧ t[k].toNat = 0)) := by rw [← hct]; omega
          have ek : ((k : Int) + 1).toNat = k + 1 := by omega
          by_cases h128 : c.toNat < 128
          · have hdn := numJ_done hJ hkt hnb (by rw [← hct]; exact h128)
            rw [← hct] at hdn
            repeat (first | refine SemW.run tblOk ?_ | refine jA (by omega) ?_ | refine jB (by omega) ?_ | refine jC (by omega) ?_ | refine jD (by omega) ?_ | refine jE rfl ?_ | refine jF (by omega) ?_ | (refine jG ?_; first | with_reducible (first | refine jH ?_ | refine jI ?_ | refine jJ ?_ | refine jK ?_ | refine jL ?_) | refine jM (by omega) ?_ | refine jN (by omega) ?_ | with_reducible refine jM rfl ?_ | refine jM (by assumption) ?_ | refine jN (by assumption) ?_ | refine jM (by decide) ?_ | refine jN (by decide) ?_) | refine jF (ptr_ok tblOk rfl rfl) ?_ | refine jO (fun _ => by kernel_rfl) ?_ | refine jF (by decide) ?_ | refine hS.ld rfl ?_ | refine hS.ldn rfl ?_ | (refine hS.st rfl rfl ?_; intro _ hS))
            rw [hdn]
            rw [ek] at hS
            exact ⟨congrArg (fun z => Value.tuple ⟨[.int .u64 z, .int .i64 0]⟩) hl7, hS⟩
          · have hnx := numJ_next hJ hkt hnb (by rw [← hct]; exact h128)
            rw [← hct] at hnx
            first
            | (exfalso; omega)
            | (repeat (first | refine SemW.run tblOk ?_ | refine jA (by omega) ?_ | refine jB (by omega) ?_ | refine jC (by omega) ?_ | refine jD (by omega) ?_ | refine jE rfl ?_ | refine jF (by omega) ?_ | (refine jG ?_; first | with_reducible (first | refine jH ?_ | refine jI ?_ | refine jJ ?_ | refine jK ?_ | refine jL ?_) | refine jM (by omega) ?_ | refine jN (by omega) ?_ | with_reducible refine jM rfl ?_ | refine jM (by assumption) ?_ | refine jN (by assumption) ?_ | refine jM (by decide) ?_ | refine jN (by decide) ?_) | refine jF (ptr_ok tblOk rfl rfl) ?_ | refine jO (fun _ => by kernel_rfl) ?_ | refine jF (by decide) ?_ | refine hS.ld rfl ?_ | refine hS.ldn rfl ?_ | (refine hS.st rfl rfl ?_; intro _ hS))
               exact ⟨(k + 1, n + c.toNat % 128 * 2 ^ (7 * k)), ⟨rfl, congrArg (Value.int .u64) hl7, rfl, trivial⟩, ⟨hnx, hS⟩, by simp only; omega⟩)
      · have hl7 := low7' n c.toNat k hJ.2.2.1 c.toNat_lt (by omega) (by omega)
        have hnb : ¬ (9 < k ∨ (k = 9 ∧ 1 < t[k].toNat) ∨ (0 < k ∧ t[k].toNat = 0)) := by rw [← hct]; omega
        have ek : ((k : Int) + 1).toNat = k + 1 := by omega
        by_cases h128 : c.toNat < 128
        · have hdn := numJ_done hJ hkt hnb (by rw [← hct]; exact h128)
          rw [← hct] at hdn
          repeat (first | refine SemW.run tblOk ?_ | refine jA (by omega) ?_ | refine jB (by omega) ?_ | refine jC (by omega) ?_ | refine jD (by omega) ?_ | refine jE rfl ?_ | refine jF (by omega) ?_ | (refine jG ?_; first | with_reducible (first | refine jH ?_ | refine jI ?_ | refine jJ ?_ | refine jK ?_ | refine jL ?_) | refine jM (by omega) ?_ | refine jN (by omega) ?_ | with_reducible refine jM rfl ?_ | refine jM (by assumption) ?_ | refine jN (by assumption) ?_ | refine jM (by decide) ?_ | refine jN (by decide) ?_) | refine jF (ptr_ok tblOk rfl rfl) ?_ | refine jO (fun _ => by kernel_rfl) ?_ | refine jF (by decide) ?_ | refine hS.ld rfl ?_ | refine hS.ldn rfl ?_ | (refine hS.st rfl rfl ?_; intro _ hS))
          rw [hdn]
          rw [ek] at hS
          exact ⟨congrArg (fun z => Value.tuple ⟨[.int .u64 z, .int .i64 0]⟩) hl7, hS⟩
        · have hnx := numJ_next hJ hkt hnb (by rw [← hct]; exact h128)
          rw [← hct] at hnx
          first
          | (exfalso; omega)
          | (repeat (first | refine SemW.run tblOk ?_ | refine jA (by omega) ?_ | refine jB (by omega) ?_ | refine jC (by omega) ?_ | refine jD (by omega) ?_ | refine jE rfl ?_ | refine jF (by omega) ?_ | (refine jG ?_; first | with_reducible (first | refine jH ?_ | refine jI ?_ | refine jJ ?_ | refine jK ?_ | refine jL ?_) | refine jM (by omega) ?_ | refine jN (by omega) ?_ | with_reducible refine jM rfl ?_ | refine jM (by assumption) ?_ | refine jN (by assumption) ?_ | refine jM (by decide) ?_ | refine jN (by decide) ?_) | refine jF (ptr_ok tblOk rfl rfl) ?_ | refine jO (fun _ => by kernel_rfl) ?_ | refine jF (by decide) ?_ | refine hS.ld rfl ?_ | refine hS.ldn rfl ?_ | (refine hS.st rfl rfl ?_; intro _ hS))
             exact ⟨(k + 1, n + c.toNat % 128 * 2 ^ (7 * k)), ⟨rfl, congrArg (Value.int .u64) hl7, rfl, trivial⟩, ⟨hnx, hS⟩, by simp only; omega⟩)
  · have hmin : ¬ ((k : Int) < min 10 (t.length : Int)) := by omega
    repeat (first | refine SemW.run tblOk ?_ | refine jA (by omega) ?_ | refine jB (by omega) ?_ | refine jC (by omega) ?_ | refine jD (by omega) ?_ | refine jE rfl ?_ | refine jF (by omega) ?_ | (refine jG ?_; first | with_reducible (first | refine jH ?_ | refine jI ?_ | refine jJ ?_ | refine jK ?_ | refine jL ?_) | refine jM (by omega) ?_ | refine jN (by omega) ?_ | with_reducible refine jM rfl ?_ | refine jM (by assumption) ?_ | refine jN (by assumption) ?_ | refine jM (by decide) ?_ | refine jN (by decide) ?_) | refine jF (ptr_ok tblOk rfl rfl) ?_ | refine jO (fun _ => by kernel_rfl) ?_ | refine jF (by decide) ?_ | refine hS.ld rfl ?_ | refine hS.ldn rfl ?_ | (refine hS.st rfl rfl ?_; intro _ hS))
    rw [numJ_fail hJ (numS_stop hk)]
    exact ⟨rfl, hS⟩
def intO (t : Bytes) : Int × Int × Bytes := (unzig (numO t).1, (numO t).2)
theorem numO_lt (t : Bytes) : (numO t).1 < 18446744073709551616 := by
  unfold numO
  cases h : numR t with
  | none => show 0 < 18446744073709551616; omega
  | some x => obtain ⟨m, r⟩ := x; exact ((numR_iff t m r).1 h).2
theorem numO_len (t : Bytes) : (numO t).2.2.length ≤ t.length := by
  unfold numO
  cases h : numR t with
  | none => exact Nat.le_refl _
  | some x =>
    obtain ⟨m, r⟩ := x
    have := congrArg List.length ((numR_iff t m r).1 h).1
    simp only [List.length_append] at this
    show r.length ≤ t.length
    omega
theorem unz_eq (u : Nat) (h : u < 18446744073709551616) : xorI .i64 ((u / 2 : Nat) : Int) (0 - ((u % 2 : Nat) : Int)) = unzig u := by
  show IntKind.i64.wrap (((BitVec.ofInt 64 ((u / 2 : Nat) : Int) ^^^ BitVec.ofInt 64 (0 - ((u % 2 : Nat) : Int))).toNat : Nat) : Int) = _
  have e1 : BitVec.ofInt 64 ((u / 2 : Nat) : Int) = BitVec.ofNat 64 (u / 2) := BitVec.ofInt_natCast ..
  unfold unzig
  by_cases h2 : u % 2 = 0
  · rw [if_pos h2, h2]
    have e2 : BitVec.ofInt 64 (0 - ((0 : Nat) : Int)) = 0#64 := by decide
    rw [e1, e2, BitVec.xor_zero, BitVec.toNat_ofNat, Nat.mod_eq_of_lt (by omega)]
    unfold IntKind.wrap; simp only [IntKind.signed, IntKind.bits]; simp; omega
  · rw [if_neg h2, show u % 2 = 1 by omega]
    have e2 : BitVec.ofInt 64 (0 - ((1 : Nat) : Int)) = BitVec.allOnes 64 := by decide
    rw [e1, e2, BitVec.xor_allOnes, BitVec.toNat_not, BitVec.toNat_ofNat, Nat.mod_eq_of_lt (by omega)]
    unfold IntKind.wrap; simp only [IntKind.signed, IntKind.bits]; simp; omega
set_option maxHeartbeats 1000000 in
theorem RInt_spec {w : World} {b : Nat} {t : Bytes} (hh : Holds [(b, rdC t)] w) (ht : t.length ≤ 70368744177664) :
    Cl Tryz.prog f_pack_Reader_Int [ptr b] w fun v w' => v = .tuple ⟨[.int .i64 (intO t).1, .int .i64 (intO t).2.1]⟩ ∧ St w [b] [(b, rdC (intO t).2.2)] w' := by
  refine en_pack_Reader_Int rfl ?_
  repeat (first | refine SemW.run tblOk ?_ | refine jA (by omega) ?_ | refine jB (by omega) ?_ | refine jC (by omega) ?_ | refine jD (by omega) ?_ | refine jE rfl ?_ | refine jF (by omega) ?_ | (refine jG ?_; first | with_reducible (first | refine jH ?_ | refine jI ?_ | refine jJ ?_ | refine jK ?_ | refine jL ?_) | refine jM (by omega) ?_ | refine jN (by omega) ?_ | with_reducible refine jM rfl ?_ | refine jM (by assumption) ?_ | refine jN (by assumption) ?_ | refine jM (by decide) ?_ | refine jN (by decide) ?_) | refine jF (ptr_ok tblOk rfl rfl) ?_ | refine jO (fun _ => by kernel_rfl) ?_ | refine jF (by decide) ?_)
  refine Cl.mono (RNum_spec hh ht) ?_
  rintro _ w1 ⟨rfl, hS⟩
  unfold intO
  have hlt := numO_lt t
  generalize numO t = x at hS hlt ⊢
  obtain ⟨u, e, r⟩ := x
  simp only at hS hlt ⊢
  have e1 : (u : Int).fdiv (2 ^ min (Int.toNat 1) IntKind.u64.bits) = ((u / 2 : Nat) : Int) := by
    show (u : Int).fdiv (2 ^ 1) = _
    rw [fdivP]
  have e2 : andI .u64 (u : Int) 1 = ((u % 2 : Nat) : Int) := by
    have h := andU .u64 rfl u 1 hlt (by decide)
    rw [show ((1 : Nat) : Int) = 1 from rfl] at h
    rw [h, show (1 : Nat) = 2 ^ 1 - 1 by rfl, Nat.and_two_pow_sub_one_eq_mod]
  have hz := unz_eq u hlt
  repeat (first | refine SemW.run tblOk ?_ | refine jA (by omega) ?_ | refine jB (by omega) ?_ | refine jC (by omega) ?_ | refine jD (by omega) ?_ | refine jE rfl ?_ | refine jF (by omega) ?_ | (refine jG ?_; first | with_reducible (first | refine jH ?_ | refine jI ?_ | refine jJ ?_ | refine jK ?_ | refine jL ?_) | refine jM (by omega) ?_ | refine jN (by omega) ?_ | with_reducible refine jM rfl ?_ | refine jM (by assumption) ?_ | refine jN (by assumption) ?_ | refine jM (by decide) ?_ | refine jN (by decide) ?_) | refine jF (ptr_ok tblOk rfl rfl) ?_ | refine jO (fun _ => by kernel_rfl) ?_ | refine jF (by decide) ?_)
  rw [e1]
  repeat (first | refine SemW.run tblOk ?_ | refine jA (by omega) ?_ | refine jB (by omega) ?_ | refine jC (by omega) ?_ | refine jD (by omega) ?_ | refine jE rfl ?_ | refine jF (by omega) ?_ | (refine jG ?_; first | with_reducible (first | refine jH ?_ | refine jI ?_ | refine jJ ?_ | refine jK ?_ | refine jL ?_) | refine jM (by omega) ?_ | refine jN (by omega) ?_ | with_reducible refine jM rfl ?_ | refine jM (by assumption) ?_ | refine jN (by assumption) ?_ | refine jM (by decide) ?_ | refine jN (by decide) ?_) | refine jF (ptr_ok tblOk rfl rfl) ?_ | refine jO (fun _ => by kernel_rfl) ?_ | refine jF (by decide) ?_)
  rw [e2]
  repeat (first | refine SemW.run tblOk ?_ | refine jA (by omega) ?_ | refine jB (by omega) ?_ | refine jC (by omega) ?_ | refine jD (by omega) ?_ | refine jE rfl ?_ | refine jF (by omega) ?_ | (refine jG ?_; first | with_reducible (first | refine jH ?_ | refine jI ?_ | refine jJ ?_ | refine jK ?_ | refine jL ?_) | refine jM (by omega) ?_ | refine jN (by omega) ?_ | with_reducible refine jM rfl ?_ | refine jM (by assumption) ?_ | refine jN (by assumption) ?_ | refine jM (by decide) ?_ | refine jN (by decide) ?_) | refine jF (ptr_ok tblOk rfl rfl) ?_ | refine jO (fun _ => by kernel_rfl) ?_ | refine jF (by decide) ?_)
  exact ⟨congrArg (fun z => Value.tuple ⟨[.int .i64 z, .int .i64 e]⟩) hz, hS⟩
theorem RDone_spec {w : World} {b : Nat} {t : Bytes} (hh : Holds [(b, rdC t)] w) :
    Cl Tryz.prog f_pack_Reader_Done [ptr b] w fun v w' => v = .bool (decide (t = [])) ∧ St w [] [] w' := by
  have hS : St w [b] [(b, rdC t)] w := St.enter hh
  refine en_pack_Reader_Done rfl ?_
  repeat (first | refine SemW.run tblOk ?_ | refine jA (by omega) ?_ | refine jB (by omega) ?_ | refine jC (by omega) ?_ | refine jD (by omega) ?_ | refine jE rfl ?_ | refine jF (by omega) ?_ | (refine jG ?_; first | with_reducible (first | refine jH ?_ | refine jI ?_ | refine jJ ?_ | refine jK ?_ | refine jL ?_) | refine jM (by omega) ?_ | refine jN (by omega) ?_ | with_reducible refine jM rfl ?_ | refine jM (by assumption) ?_ | refine jN (by assumption) ?_ | refine jM (by decide) ?_ | refine jN (by decide) ?_) | refine jF (ptr_ok tblOk rfl rfl) ?_ | refine jO (fun _ => by kernel_rfl) ?_ | refine jF (by decide) ?_ | refine hS.ld rfl ?_ | refine hS.ldn rfl ?_ | (refine hS.st rfl rfl ?_; intro _ hS))
  exact ⟨rfl, St.start w⟩
theorem PRead_spec {w : World} {t : Bytes} : Cl Tryz.prog f_pack_Read [Str t] w fun v w' => ∃ b, v = ptr b ∧ St w [] [(b, rdC t)] w' := by
  have hS := St.start w
  refine en_pack_Read rfl ?_
  repeat (first | refine SemW.run tblOk ?_ | refine jA (by omega) ?_ | refine jB (by omega) ?_ | refine jC (by omega) ?_ | refine jD (by omega) ?_ | refine jE rfl ?_ | refine jF (by omega) ?_ | (refine jG ?_; first | with_reducible (first | refine jH ?_ | refine jI ?_ | refine jJ ?_ | refine jK ?_ | refine jL ?_) | refine jM (by omega) ?_ | refine jN (by omega) ?_ | with_reducible refine jM rfl ?_ | refine jM (by assumption) ?_ | refine jN (by assumption) ?_ | refine jM (by decide) ?_ | refine jN (by decide) ?_) | refine jF (ptr_ok tblOk rfl rfl) ?_ | refine jO (fun _ => by kernel_rfl) ?_ | refine jF (by decide) ?_)
  refine hS.al ?_
  intro b w1 _ hS
  repeat (first | refine SemW.run tblOk ?_ | refine jA (by omega) ?_ | refine jB (by omega) ?_ | refine jC (by omega) ?_ | refine jD (by omega) ?_ | refine jE rfl ?_ | refine jF (by omega) ?_ | (refine jG ?_; first | with_reducible (first | refine jH ?_ | refine jI ?_ | refine jJ ?_ | refine jK ?_ | refine jL ?_) | refine jM (by omega) ?_ | refine jN (by omega) ?_ | with_reducible refine jM rfl ?_ | refine jM (by assumption) ?_ | refine jN (by assumption) ?_ | refine jM (by decide) ?_ | refine jN (by decide) ?_) | refine jF (ptr_ok tblOk rfl rfl) ?_ | refine jO (fun _ => by kernel_rfl) ?_ | refine jF (by decide) ?_)
  exact ⟨b, rfl, hS⟩
end Go.Proofs.YthpmmfapolcaiaaGreatDoor

/- Plain: reading numbers one behind the other, with a mark that it failed. -/
namespace Go.Proofs.YthpmmfapolcaiaaGreatDoor
open Go Go.Eng
theorem zig_ok {z : Int} (h : i64ok z) : zig z < 18446744073709551616 := by
  unfold i64ok at h; unfold zig; split <;> omega
theorem ok_zig {z : Int} (h : zig z < 18446744073709551616) : i64ok z := by
  unfold zig at h; unfold i64ok; split at h <;> omega
theorem numO_app (m : Nat) (r : Bytes) (h : m < 18446744073709551616) : numO (numB m ++ r) = (m, 0, r) := by
  unfold numO; rw [(numR_iff _ m r).2 ⟨rfl, h⟩]
theorem intO_app (z : Int) (r : Bytes) (h : i64ok z) : intO (intB z ++ r) = (z, 0, r) := by
  unfold intO intB
  rw [numO_app _ _ (zig_ok h), unzig_zig]
theorem numO_ok {t : Bytes} (h : (numO t).2.1 = 0) : t = numB (numO t).1 ++ (numO t).2.2 := by
  unfold numO at h ⊢
  cases e : numR t with
  | none => rw [e] at h; cases h
  | some x => obtain ⟨m, r⟩ := x; exact ((numR_iff t m r).1 e).1
theorem numO_err (t : Bytes) : (numO t).2.1 = 0 ∨ (numO t).2.1 = 1 := by
  unfold numO
  cases numR t with
  | none => exact .inr rfl
  | some x => exact .inl rfl
theorem intO_ok {t : Bytes} (h : (intO t).2.1 = 0) : t = intB (intO t).1 ++ (intO t).2.2 ∧ i64ok (intO t).1 := by
  have h1 := numO_ok h
  have h2 := numO_lt t
  unfold intO intB
  simp only
  rw [zig_unzig]
  exact ⟨h1, ok_zig (by rw [zig_unzig]; exact h2)⟩
theorem intO_err (t : Bytes) : (intO t).2.1 = 0 ∨ (intO t).2.1 = 1 := numO_err t
theorem intO_len (t : Bytes) : (intO t).2.2.length ≤ t.length := numO_len t
theorem intO_len' {t : Bytes} (h : (intO t).2.1 = 0) : (intO t).2.2.length + 1 ≤ t.length := by
  have h1 := congrArg List.length (intO_ok h).1
  have h2 := numB_pos (zig (intO t).1)
  rw [List.length_append] at h1
  unfold intB at h1; omega
/-- What a reader knows: what is left, whether it failed. -/
structure RB where
  t : Bytes
  bad : Bool
def rbInt (s : RB) : Int × RB := ((intO s.t).1, ⟨(intO s.t).2.2, s.bad || decide ((intO s.t).2.1 ≠ 0)⟩)
def rbNum (s : RB) : Nat × RB := ((numO s.t).1, ⟨(numO s.t).2.2, s.bad || decide ((numO s.t).2.1 ≠ 0)⟩)
def rdI : Nat → RB × List Int → RB × List Int
  | 0, x => x
  | n + 1, (s, l) => if s.bad = true then (s, l) else rdI n ((rbInt s).2, l ++ [(rbInt s).1])
theorem rbInt_good {s : RB} (h : (rbInt s).2.bad = false) : s.bad = false ∧ s.t = intB (rbInt s).1 ++ (rbInt s).2.t ∧ i64ok (rbInt s).1 := by
  unfold rbInt at h ⊢
  simp only [Bool.or_eq_false_iff, decide_eq_false_iff_not, Decidable.not_not] at h
  exact ⟨h.1, (intO_ok h.2).1, (intO_ok h.2).2⟩
theorem rbNum_good {s : RB} (h : (rbNum s).2.bad = false) : s.bad = false ∧ s.t = numB (rbNum s).1 ++ (rbNum s).2.t := by
  unfold rbNum at h ⊢
  simp only [Bool.or_eq_false_iff, decide_eq_false_iff_not, Decidable.not_not] at h
  exact ⟨h.1, numO_ok h.2⟩
theorem rbInt_app (z : Int) (r : Bytes) (h : i64ok z) : rbInt ⟨intB z ++ r, false⟩ = (z, ⟨r, false⟩) := by
  unfold rbInt; simp only [intO_app z r h]; rfl
theorem rbNum_app (m : Nat) (r : Bytes) (h : m < 18446744073709551616) : rbNum ⟨numB m ++ r, false⟩ = (m, ⟨r, false⟩) := by
  unfold rbNum; simp only [numO_app m r h]; rfl
theorem rdI_bad : ∀ (n : Nat) (s : RB) (l : List Int), (rdI n (s, l)).1.bad = false → s.bad = false
  | 0, s, l, h => h
  | n + 1, s, l, h => by
    cases hb : s.bad with
    | false => rfl
    | true => unfold rdI at h; rw [if_pos hb] at h; rw [hb] at h; exact h
theorem rdI_good : ∀ (n : Nat) (s : RB) (l : List Int), (rdI n (s, l)).1.bad = false → ∃ m, m.length = n ∧ (rdI n (s, l)).2 = l ++ m ∧ s.t = intsB m ++ (rdI n (s, l)).1.t ∧ ∀ z ∈ m, i64ok z
  | 0, s, l, h => ⟨[], rfl, (List.append_nil l).symm, rfl, by simp⟩
  | n + 1, s, l, h => by
    have hb := rdI_bad (n + 1) s l h
    unfold rdI at h ⊢
    rw [if_neg (by rw [hb]; nofun)] at h ⊢
    obtain ⟨m, h1, h2, h3, h4⟩ := rdI_good n _ _ h
    have hb2 := rdI_bad n _ _ h
    obtain ⟨-, e1, r1⟩ := rbInt_good hb2
    refine ⟨(rbInt s).1 :: m, by simp [h1], by rw [h2]; simp, ?_, ?_⟩
    · conv => lhs; rw [e1]
      rw [h3]
      simp only [intsB, List.map_cons, List.flatten_cons, List.append_assoc]
    · intro f hf
      rcases List.mem_cons.1 hf with rfl | hf
      · exact r1
      · exact h4 f hf
theorem rdI_app : ∀ (m : List Int) (r : Bytes) (l : List Int), (∀ z ∈ m, i64ok z) → rdI m.length (⟨intsB m ++ r, false⟩, l) = (⟨r, false⟩, l ++ m)
  | [], r, l, _ => by simp [rdI, intsB]
  | f :: m, r, l, h => by
    have hf := h f (by simp)
    rw [List.length_cons]
    unfold rdI
    rw [if_neg nofun]
    have e : intsB (f :: m) ++ r = intB f ++ (intsB m ++ r) := by simp [intsB]
    rw [e]
    simp only [rbInt_app _ _ hf]
    rw [rdI_app m r _ fun g hg => h g (by simp [hg])]
    simp
end Go.Proofs.YthpmmfapolcaiaaGreatDoor

/- Package pack: the reader's texts. -/
namespace Go.Proofs.YthpmmfapolcaiaaGreatDoor
open Go Go.Eng Go.Proofs
/-- What a read of a text answers, and what is left. -/
def textO (t : Bytes) : Bytes × Int × Bytes := match textR t with
  | some (s, r) => (s, 0, r)
  | none => ([], 1, t)
theorem textO_len (t : Bytes) : (textO t).1.length + (textO t).2.2.length ≤ t.length := by
  unfold textO
  cases h : textR t with
  | none => show 0 + t.length ≤ t.length; omega
  | some x =>
    obtain ⟨s, r⟩ := x
    have := congrArg List.length ((textR_iff t s r).1 h).1
    simp only [textB, List.length_append] at this
    show s.length + r.length ≤ t.length
    omega
set_option maxHeartbeats 1000000 in
theorem RText_spec {w : World} {b : Nat} {t : Bytes} (hh : Holds [(b, rdC t)] w) (ht : t.length ≤ 70368744177664) :
    Cl Tryz.prog f_pack_Reader_Text [ptr b] w fun v w' => v = .tuple ⟨[Str (textO t).1, .int .i64 (textO t).2.1]⟩ ∧ St w [b] [(b, rdC (textO t).2.2)] w' := by
  have hS : St w [b] [(b, rdC t)] w := St.enter hh
  refine en_pack_Reader_Text rfl ?_
  repeat (first | refine SemW.run tblOk ?_ | refine jA (by omega) ?_ | refine jB (by omega) ?_ | refine jC (by omega) ?_ | refine jD (by omega) ?_ | refine jE rfl ?_ | refine jF (by omega) ?_ | (refine jG ?_; first | with_reducible (first | refine jH ?_ | refine jI ?_ | refine jJ ?_ | refine jK ?_ | refine jL ?_) | refine jM (by omega) ?_ | refine jN (by omega) ?_ | with_reducible refine jM rfl ?_ | refine jM (by assumption) ?_ | refine jN (by assumption) ?_ | refine jM (by decide) ?_ | refine jN (by decide) ?_) | refine jF (ptr_ok tblOk rfl rfl) ?_ | refine jO (fun _ => by kernel_rfl) ?_ | refine jF (by decide) ?_ | refine hS.ld rfl ?_ | refine hS.ldn rfl ?_ | (refine hS.st rfl rfl ?_; intro _ hS))
  refine Cl.mono (RNum_spec hh ht) ?_
  rintro _ w1 ⟨rfl, hS1⟩
  have hlt := numO_lt t
  have hln := numO_len t
  unfold textO textR
  cases h : numR t with
  | none =>
    have hn : numO t = (0, 1, t) := by unfold numO; rw [h]
    rw [hn] at hS1 ⊢
    simp only at hS1 ⊢
    have hS := hS1
    repeat (first | refine SemW.run tblOk ?_ | refine jA (by omega) ?_ | refine jB (by omega) ?_ | refine jC (by omega) ?_ | refine jD (by omega) ?_ | refine jE rfl ?_ | refine jF (by omega) ?_ | (refine jG ?_; first | with_reducible (first | refine jH ?_ | refine jI ?_ | refine jJ ?_ | refine jK ?_ | refine jL ?_) | refine jM (by omega) ?_ | refine jN (by omega) ?_ | with_reducible refine jM rfl ?_ | refine jM (by assumption) ?_ | refine jN (by assumption) ?_ | refine jM (by decide) ?_ | refine jN (by decide) ?_) | refine jF (ptr_ok tblOk rfl rfl) ?_ | refine jO (fun _ => by kernel_rfl) ?_ | refine jF (by decide) ?_ | refine hS.ld rfl ?_ | refine hS.ldn rfl ?_ | (refine hS.st rfl rfl ?_; intro _ hS))
    exact ⟨rfl, hS⟩
  | some x =>
    obtain ⟨m, r⟩ := x
    have hn : numO t = (m, 0, r) := by unfold numO; rw [h]
    rw [hn] at hS1 hlt hln ⊢
    simp only at hS1 hlt hln ⊢
    have hS := hS1
    by_cases hm : r.length < m
    · rw [if_pos hm]
      repeat (first | refine SemW.run tblOk ?_ | refine jA (by omega) ?_ | refine jB (by omega) ?_ | refine jC (by omega) ?_ | refine jD (by omega) ?_ | refine jE rfl ?_ | refine jF (by omega) ?_ | (refine jG ?_; first | with_reducible (first | refine jH ?_ | refine jI ?_ | refine jJ ?_ | refine jK ?_ | refine jL ?_) | refine jM (by omega) ?_ | refine jN (by omega) ?_ | with_reducible refine jM rfl ?_ | refine jM (by assumption) ?_ | refine jN (by assumption) ?_ | refine jM (by decide) ?_ | refine jN (by decide) ?_) | refine jF (ptr_ok tblOk rfl rfl) ?_ | refine jO (fun _ => by kernel_rfl) ?_ | refine jF (by decide) ?_ | refine hS.ld rfl ?_ | refine hS.ldn rfl ?_ | (refine hS.st rfl rfl ?_; intro _ hS))
      exact ⟨rfl, hS⟩
    · rw [if_neg hm]
      repeat (first | refine SemW.run tblOk ?_ | refine jA (by omega) ?_ | refine jB (by omega) ?_ | refine jC (by omega) ?_ | refine jD (by omega) ?_ | refine jE rfl ?_ | refine jF (by omega) ?_ | (refine jG ?_; first | with_reducible (first | refine jH ?_ | refine jI ?_ | refine jJ ?_ | refine jK ?_ | refine jL ?_) | refine jM (by omega) ?_ | refine jN (by omega) ?_ | with_reducible refine jM rfl ?_ | refine jM (by assumption) ?_ | refine jN (by assumption) ?_ | refine jM (by decide) ?_ | refine jN (by decide) ?_) | refine jF (ptr_ok tblOk rfl rfl) ?_ | refine jO (fun _ => by kernel_rfl) ?_ | refine jF (by decide) ?_ | refine hS.ld rfl ?_ | refine hS.ldn rfl ?_ | (refine hS.st rfl rfl ?_; intro _ hS))
      exact ⟨rfl, hS⟩
end Go.Proofs.YthpmmfapolcaiaaGreatDoor

/- Plain: the bytes of commands and replies, how they are read, and that nothing else is read. -/
namespace Go.Proofs.YthpmmfapolcaiaaGreatDoor
open Go Go.Eng Go.Proofs

instance : DecidableEq RowM := fun a b =>
  if h : a.num = b.num ∧ a.cab = b.cab ∧ a.zone = b.zone ∧ a.exit = b.exit ∧ a.seats = b.seats then
    isTrue (by obtain ⟨h1, h2, h3, h4, h5⟩ := h; cases a; cases b; simp only at h1 h2 h3 h4 h5; rw [h1, h2, h3, h4, h5])
  else isFalse (fun e => h (by rw [e]; exact ⟨rfl, rfl, rfl, rfl, rfl⟩))
/-- A step of a reader, and what follows. -/
def tk {α β : Type} (x : α × RB) (f : α → RB → β) : β := f x.1 x.2
def wNum (most : Nat) (s : RB) : Nat × RB := if (numO s.t).2.1 ≠ 0 ∨ most < (numO s.t).1 then (0, ⟨(numO s.t).2.2, true⟩) else ((numO s.t).1, ⟨(numO s.t).2.2, s.bad⟩)
def wInts : Nat → RB → List Int × RB
  | 0, s => ([], s)
  | k + 1, s => ((rbInt s).1 :: (wInts k (rbInt s).2).1, (wInts k (rbInt s).2).2)
def bitsN : Nat → Nat → List Bool
  | 0, _ => []
  | k + 1, n => decide (n % 2 = 1) :: bitsN k (n / 2)
def wMarks (k : Nat) (s : RB) : List Bool × RB := (bitsN k (wNum (2 ^ k - 1) s).1, (wNum (2 ^ k - 1) s).2)
def wText (s : RB) : Bytes × RB := ((textO s.t).1, ⟨(textO s.t).2.2, s.bad || decide ((textO s.t).2.1 ≠ 0)⟩)
def wRow (s : RB) : RowM × RB := tk (wInts 3 s) fun l s => tk (wMarks 1 s) fun m s => tk (wText s) fun x s => (⟨l.getD 0 0, l.getD 1 0, l.getD 2 0, m.getD 0 false, x⟩, s)
def wRows : Nat → RB → List RowM × RB
  | 0, s => ([], s)
  | k + 1, s => ((wRow s).1 :: (wRows k (wRow s).2).1, (wRows k (wRow s).2).2)
/-- What is read well is just what would be written. -/
structure Codec {α : Type} (D : RB → α × RB) (E : α → Bytes) (ok : α → Prop) : Prop where
  good : ∀ s, (D s).2.bad = false → s.bad = false ∧ s.t = E (D s).1 ++ (D s).2.t ∧ ok (D s).1
  app : ∀ a r, ok a → D ⟨E a ++ r, false⟩ = (a, ⟨r, false⟩)
theorem wNum_codec (most : Nat) (hm : most < 18446744073709551616) : Codec (wNum most) numB (fun n => n ≤ most) where
  good s h := by
    unfold wNum at h ⊢
    split at h
    · cases h
    · next hc =>
      rw [if_neg hc]
      obtain ⟨h1, h2⟩ := not_or.1 hc
      exact ⟨h, numO_ok (Decidable.not_not.1 h1), by simp only; omega⟩
  app a r ha := by
    unfold wNum
    simp only [numO_app a r (by omega)]
    rw [if_neg (by rintro (h | h) <;> omega)]
theorem wInts_len : ∀ k s, (wInts k s).1.length = k
  | 0, _ => rfl
  | k + 1, s => by unfold wInts; simp [wInts_len k]
theorem rbInt_ok' (s : RB) : i64ok (rbInt s).1 := by
  have h2 := numO_lt s.t
  unfold rbInt intO
  exact ok_zig (by simp only; rw [zig_unzig]; exact h2)
theorem wInts_ok : ∀ k s, ∀ z ∈ (wInts k s).1, i64ok z
  | 0, _, z, hz => by cases hz
  | k + 1, s, z, hz => by
    rcases List.mem_cons.1 hz with rfl | hz
    · exact rbInt_ok' s
    · exact wInts_ok k _ z hz
theorem wInts_codec : ∀ k, Codec (wInts k) intsB (fun l => l.length = k ∧ ∀ z ∈ l, i64ok z)
  | 0 => ⟨fun s h => ⟨h, rfl, rfl, by nofun⟩, fun a r ha => by obtain rfl := List.eq_nil_of_length_eq_zero ha.1; rfl⟩
  | k + 1 => by
    have ih := wInts_codec k
    refine ⟨fun s h => ?_, fun a r ha => ?_⟩
    · obtain ⟨h1, e1, -⟩ := ih.good _ (show (wInts k (rbInt s).2).2.bad = false from h)
      obtain ⟨h2, e2, -⟩ := rbInt_good h1
      refine ⟨h2, ?_, wInts_len (k + 1) s, wInts_ok (k + 1) s⟩
      unfold wInts
      simp only [intsB, List.map_cons, List.flatten_cons, List.append_assoc]
      rw [e2]
      congr 1
    · match a, ha with
      | z :: a, ha =>
        have e : intsB (z :: a) ++ r = intB z ++ (intsB a ++ r) := by simp [intsB]
        rw [e]
        unfold wInts
        rw [rbInt_app _ _ (ha.2 z List.mem_cons_self)]
        simp only
        rw [ih.app a r ⟨by simpa using ha.1, fun y hy => ha.2 y (List.mem_cons_of_mem _ hy)⟩]
theorem bitsN_len : ∀ k n, (bitsN k n).length = k
  | 0, _ => rfl
  | k + 1, n => by unfold bitsN; simp [bitsN_len k]
theorem marks_bits : ∀ k n, n < 2 ^ k → marksN (bitsN k n) = n
  | 0, n, h => by simp at h; simp [bitsN, marksN, h]
  | k + 1, n, h => by
    rw [Nat.pow_succ] at h
    unfold bitsN marksN
    rw [marks_bits k (n / 2) (by omega)]
    by_cases h2 : n % 2 = 1
    · rw [decide_eq_true h2, if_pos rfl]; omega
    · rw [decide_eq_false h2, if_neg (by nofun)]; omega
theorem bits_marksN : ∀ l : List Bool, bitsN l.length (marksN l) = l
  | [] => rfl
  | b :: l => by
    rw [List.length_cons]
    unfold bitsN
    have e1 : marksN (b :: l) % 2 = if b then 1 else 0 := by rw [marksN]; split <;> omega
    have e2 : marksN (b :: l) / 2 = marksN l := by rw [marksN]; split <;> omega
    rw [e1, e2, bits_marksN l]
    cases b <;> rfl
theorem wMarks_codec (k : Nat) (hk : k ≤ 8) : Codec (wMarks k) (fun l => numB (marksN l)) (fun l => l.length = k) := by
  have hp : 2 ^ k ≤ 2 ^ 8 := Nat.pow_le_pow_right (by omega) hk
  have hp0 : 0 < 2 ^ k := Nat.two_pow_pos k
  have ih := wNum_codec (2 ^ k - 1) (by omega)
  refine ⟨fun s h => ?_, fun a r ha => ?_⟩
  · obtain ⟨h1, e1, o1⟩ := ih.good s h
    refine ⟨h1, ?_, bitsN_len _ _⟩
    show s.t = numB (marksN (bitsN k _)) ++ _
    rw [marks_bits k _ (by omega)]; exact e1
  · have hl := marksN_lt a
    rw [ha] at hl
    unfold wMarks
    rw [ih.app _ r (by omega)]
    simp only [← ha]
    rw [bits_marksN]
theorem textO_ok {t : Bytes} (h : (textO t).2.1 = 0) : t = textB (textO t).1 ++ (textO t).2.2 ∧ (textO t).1.length < 18446744073709551616 := by
  unfold textO at h ⊢
  cases e : textR t with
  | none => rw [e] at h; cases h
  | some x => obtain ⟨m, r⟩ := x; exact (textR_iff t m r).1 e
theorem textO_app (s r : Bytes) (h : s.length < 18446744073709551616) : textO (textB s ++ r) = (s, 0, r) := by
  unfold textO; rw [(textR_iff _ s r).2 ⟨rfl, h⟩]
theorem wText_codec : Codec wText textB (fun x => x.length < 18446744073709551616) where
  good s h := by
    unfold wText at h ⊢
    simp only [Bool.or_eq_false_iff, decide_eq_false_iff_not, Decidable.not_not] at h
    exact ⟨h.1, textO_ok h.2⟩
  app a r ha := by
    unfold wText; simp only [textO_app a r ha]; rfl
theorem lst1 {α : Type} {l : List α} (d : α) (h : l.length = 1) : l = [l.getD 0 d] := by
  match l, h with
  | [a], _ => rfl
theorem lst2 {α : Type} {l : List α} (d : α) (h : l.length = 2) : l = [l.getD 0 d, l.getD 1 d] := by
  match l, h with
  | [a, b], _ => rfl
theorem lst3 {α : Type} {l : List α} (d : α) (h : l.length = 3) : l = [l.getD 0 d, l.getD 1 d, l.getD 2 d] := by
  match l, h with
  | [a, b, c], _ => rfl
theorem lst4 {α : Type} {l : List α} (d : α) (h : l.length = 4) : l = [l.getD 0 d, l.getD 1 d, l.getD 2 d, l.getD 3 d] := by
  match l, h with
  | [a, b, c, e], _ => rfl
theorem lst6 {α : Type} {l : List α} (d : α) (h : l.length = 6) : l = [l.getD 0 d, l.getD 1 d, l.getD 2 d, l.getD 3 d, l.getD 4 d, l.getD 5 d] := by
  match l, h with
  | [a, b, c, e, f, g], _ => rfl
theorem lst7 {α : Type} {l : List α} (d : α) (h : l.length = 7) : l = [l.getD 0 d, l.getD 1 d, l.getD 2 d, l.getD 3 d, l.getD 4 d, l.getD 5 d, l.getD 6 d] := by
  match l, h with
  | [a, b, c, e, f, g, i], _ => rfl
theorem getD_ok {l : List Int} (h : ∀ z ∈ l, i64ok z) (i : Nat) : i64ok (l.getD i 0) := by
  rw [List.getD_eq_getElem?_getD]
  cases e : l[i]? with
  | none => exact ⟨by decide, by decide⟩
  | some z => exact h z (List.mem_of_getElem? e)
theorem wRow_codec : Codec wRow rowB (fun r => r.ok ∧ r.seats.length < 18446744073709551616) where
  good s h := by
    unfold wRow tk at h ⊢
    simp only at h ⊢
    obtain ⟨h3, e3, o3⟩ := wText_codec.good _ h
    obtain ⟨h2, e2, o2⟩ := (wMarks_codec 1 (by omega)).good _ h3
    obtain ⟨h1, e1, o1⟩ := (wInts_codec 3).good _ h2
    refine ⟨h1, ?_, ⟨getD_ok o1.2 0, getD_ok o1.2 1, getD_ok o1.2 2⟩, o3⟩
    unfold rowB
    simp only
    rw [← lst3 0 o1.1, ← lst1 false o2, e1, e2]
    conv => lhs; rw [e3]
    simp [textsB]
  app a r ha := by
    have e : rowB a ++ r = intsB [a.num, a.cab, a.zone] ++ (numB (marksN [a.exit]) ++ (textB a.seats ++ r)) := by simp [rowB, textsB]
    rw [e]
    unfold wRow tk
    rw [(wInts_codec 3).app _ _ ⟨rfl, by
      intro z hz
      simp only [List.mem_cons, List.mem_nil_iff, or_false] at hz
      rcases hz with rfl | rfl | rfl
      · exact ha.1.num
      · exact ha.1.cab
      · exact ha.1.zone⟩]
    simp only
    rw [(wMarks_codec 1 (by omega)).app _ _ rfl]
    simp only
    rw [wText_codec.app _ _ ha.2]
    rfl
theorem wRows_len : ∀ k s, (wRows k s).1.length = k
  | 0, _ => rfl
  | k + 1, s => by unfold wRows; simp [wRows_len k]
theorem wRows_codec : ∀ k, Codec (wRows k) rowsBt (fun l => l.length = k ∧ ∀ r ∈ l, r.ok ∧ r.seats.length < 18446744073709551616)
  | 0 => ⟨fun s h => ⟨h, rfl, rfl, by nofun⟩, fun a r ha => by obtain rfl := List.eq_nil_of_length_eq_zero ha.1; rfl⟩
  | k + 1 => by
    have ih := wRows_codec k
    refine ⟨fun s h => ?_, fun a r ha => ?_⟩
    · obtain ⟨h1, e1, o1⟩ := ih.good _ (show (wRows k (wRow s).2).2.bad = false from h)
      obtain ⟨h2, e2, o2⟩ := wRow_codec.good _ h1
      refine ⟨h2, ?_, wRows_len (k + 1) s, ?_⟩
      · unfold wRows
        simp only [rowsBt, List.map_cons, List.flatten_cons, List.append_assoc] at e1 ⊢
        rw [← e1]; exact e2
      · intro q hq
        rcases List.mem_cons.1 hq with rfl | hq
        · exact o2
        · exact o1.2 q hq
    · match a, ha with
      | z :: a, ha =>
        have e : rowsBt (z :: a) ++ r = rowB z ++ (rowsBt a ++ r) := by simp [rowsBt]
        rw [e]
        unfold wRows
        rw [wRow_codec.app _ _ (ha.2 z List.mem_cons_self)]
        simp only
        rw [ih.app a r ⟨by simpa using ha.1, fun y hy => ha.2 y (List.mem_cons_of_mem _ hy)⟩]
theorem rowsBt_min (rs : List RowM) : rs.length ≤ (rowsBt rs).length := by
  induction rs with
  | nil => exact Nat.zero_le _
  | cons r rs ih =>
    have h := numB_pos (marksN [r.exit])
    unfold rowsBt at ih ⊢
    unfold rowB at ih ⊢
    simp only [List.map_cons, List.flatten_cons, List.length_append, List.length_cons] at ih ⊢
    omega
structure CmdM where
  kind : Int
  req : Int
  id : Int
  fl : Int
  eq : Int
  cls : Int
  wcab : Int
  fit : Bool
  inf : Bool
  vol : Bool
  stb : Bool
  num : Int
  lt : Nat
  rows : List RowM
  l0 : Int
  l1 : Int
  l2 : Int
  l3 : Int
  text : Bytes
theorem CmdM.ext' {a b : CmdM} (h0 : a.kind = b.kind) (h1 : a.req = b.req) (h2 : a.id = b.id) (h3 : a.fl = b.fl) (h4 : a.eq = b.eq) (h5 : a.cls = b.cls) (h6 : a.wcab = b.wcab) (h7 : a.fit = b.fit) (h8 : a.inf = b.inf) (h9 : a.vol = b.vol) (h10 : a.stb = b.stb) (h11 : a.num = b.num) (h12 : a.lt = b.lt) (h13 : a.rows = b.rows) (h14 : a.l0 = b.l0) (h15 : a.l1 = b.l1) (h16 : a.l2 = b.l2) (h17 : a.l3 = b.l3) (h18 : a.text = b.text) : a = b := by
  cases a; cases b; simp only at h0 h1 h2 h3 h4 h5 h6 h7 h8 h9 h10 h11 h12 h13 h14 h15 h16 h17 h18; rw [h0, h1, h2, h3, h4, h5, h6, h7, h8, h9, h10, h11, h12, h13, h14, h15, h16, h17, h18]
instance : DecidableEq CmdM := fun a b =>
  if h : a.kind = b.kind ∧ a.req = b.req ∧ a.id = b.id ∧ a.fl = b.fl ∧ a.eq = b.eq ∧ a.cls = b.cls ∧ a.wcab = b.wcab ∧ a.fit = b.fit ∧ a.inf = b.inf ∧ a.vol = b.vol ∧ a.stb = b.stb ∧ a.num = b.num ∧ a.lt = b.lt ∧ a.rows = b.rows ∧ a.l0 = b.l0 ∧ a.l1 = b.l1 ∧ a.l2 = b.l2 ∧ a.l3 = b.l3 ∧ a.text = b.text then
    isTrue (by obtain ⟨h0, h1, h2, h3, h4, h5, h6, h7, h8, h9, h10, h11, h12, h13, h14, h15, h16, h17, h18⟩ := h; exact CmdM.ext' h0 h1 h2 h3 h4 h5 h6 h7 h8 h9 h10 h11 h12 h13 h14 h15 h16 h17 h18)
  else isFalse (fun e => h (by rw [e]; exact ⟨rfl, rfl, rfl, rfl, rfl, rfl, rfl, rfl, rfl, rfl, rfl, rfl, rfl, rfl, rfl, rfl, rfl, rfl, rfl⟩))
structure CmdM.ok (c : CmdM) : Prop where
  kind : i64ok c.kind
  req : i64ok c.req
  id : i64ok c.id
  fl : i64ok c.fl
  eq : i64ok c.eq
  cls : i64ok c.cls
  wcab : i64ok c.wcab
  num : i64ok c.num
  lt : c.lt < 256
  rows : ∀ r ∈ c.rows, r.ok
  l0 : i64ok c.l0
  l1 : i64ok c.l1
  l2 : i64ok c.l2
  l3 : i64ok c.l3
/-- The kinds, by what they have bytes for. -/
inductive CK where
  | equip | flight | book | seat | swap | fl | board | id
def ckOf (k : Int) : CK := if k = 1 then .equip else if k = 2 then .flight else if k = 3 then .book else if k = 6 then .seat else if k = 8 then .swap else if k = 9 ∨ k = 10 ∨ k = 13 ∨ k = 14 then .fl else if k = 12 then .board else .id
abbrev hdC (k q : Int) : CmdM := ⟨k, q, 0, 0, 0, 0, 0, false, false, false, false, 0, 0, [], 0, 0, 0, 0, []⟩
def bareF : CK → CmdM → CmdM
  | .equip, c => { hdC c.kind c.req with id := c.id, rows := c.rows }
  | .flight, c => { hdC c.kind c.req with id := c.id, eq := c.eq, l0 := c.l0, l1 := c.l1, l2 := c.l2, l3 := c.l3 }
  | .book, c => { hdC c.kind c.req with id := c.id, fl := c.fl, cls := c.cls, wcab := c.wcab, fit := c.fit, inf := c.inf, vol := c.vol, stb := c.stb }
  | .seat, c => { hdC c.kind c.req with id := c.id, num := c.num, lt := c.lt }
  | .swap, c => { hdC c.kind c.req with fl := c.fl, eq := c.eq }
  | .fl, c => { hdC c.kind c.req with fl := c.fl }
  | .board, c => { hdC c.kind c.req with text := c.text }
  | .id, c => { hdC c.kind c.req with id := c.id }
def fieldsB : CK → CmdM → Bytes
  | .equip, c => intsB [c.id] ++ (numB c.rows.length ++ rowsBt c.rows)
  | .flight, c => intsB [c.id, c.eq] ++ intsB [c.l0, c.l1, c.l2, c.l3]
  | .book, c => intsB [c.id, c.fl, c.wcab, c.cls] ++ numB (marksN [c.fit, c.inf, c.vol, c.stb])
  | .seat, c => intsB [c.id, c.num] ++ numB c.lt
  | .swap, c => intsB [c.fl, c.eq]
  | .fl, c => intsB [c.fl]
  | .board, c => textB c.text
  | .id, c => intsB [c.id]
def wField : CK → Int → Int → RB → CmdM × RB
  | .equip, k, q, s => tk (wInts 1 s) fun l s => tk (wNum s.t.length s) fun n s => tk (wRows n s) fun r s => ({ hdC k q with id := l.getD 0 0, rows := r }, s)
  | .flight, k, q, s => tk (wInts 2 s) fun l s => tk (wInts 4 s) fun x s => ({ hdC k q with id := l.getD 0 0, eq := l.getD 1 0, l0 := x.getD 0 0, l1 := x.getD 1 0, l2 := x.getD 2 0, l3 := x.getD 3 0 }, s)
  | .book, k, q, s => tk (wInts 4 s) fun l s => tk (wMarks 4 s) fun m s => ({ hdC k q with id := l.getD 0 0, fl := l.getD 1 0, wcab := l.getD 2 0, cls := l.getD 3 0, fit := m.getD 0 false, inf := m.getD 1 false, vol := m.getD 2 false, stb := m.getD 3 false }, s)
  | .seat, k, q, s => tk (wInts 2 s) fun l s => tk (wNum 255 s) fun n s => ({ hdC k q with id := l.getD 0 0, num := l.getD 1 0, lt := n }, s)
  | .swap, k, q, s => tk (wInts 2 s) fun l s => ({ hdC k q with fl := l.getD 0 0, eq := l.getD 1 0 }, s)
  | .fl, k, q, s => tk (wInts 1 s) fun l s => ({ hdC k q with fl := l.getD 0 0 }, s)
  | .board, k, q, s => tk (wText s) fun x s => ({ hdC k q with text := x }, s)
  | .id, k, q, s => tk (wInts 1 s) fun l s => ({ hdC k q with id := l.getD 0 0 }, s)
theorem bare_kind (k : CK) (c : CmdM) : (bareF k c).kind = c.kind := by cases k <;> rfl
theorem bare_req (k : CK) (c : CmdM) : (bareF k c).req = c.req := by cases k <;> rfl
theorem bare_bare (k : CK) (c : CmdM) : bareF k (bareF k c) = bareF k c := by cases k <;> rfl
theorem bare_fields (k : CK) (c : CmdM) : fieldsB k (bareF k c) = fieldsB k c := by cases k <;> rfl
theorem ok0 : i64ok 0 := ⟨by decide, by decide⟩
theorem hdC_ok {k q : Int} (hk : i64ok k) (hq : i64ok q) : (hdC k q).ok := ⟨hk, hq, ok0, ok0, ok0, ok0, ok0, ok0, (by decide : 0 < 256), (fun _ h => nomatch h), ok0, ok0, ok0, ok0⟩
theorem bare_ok (k : CK) {c : CmdM} (h : c.ok) : (bareF k c).ok := by
  have h0 := hdC_ok h.kind h.req
  cases k
  · exact { h0 with id := h.id, rows := h.rows }
  · exact { h0 with id := h.id, eq := h.eq, l0 := h.l0, l1 := h.l1, l2 := h.l2, l3 := h.l3 }
  · exact { h0 with id := h.id, fl := h.fl, cls := h.cls, wcab := h.wcab }
  · exact { h0 with id := h.id, num := h.num, lt := h.lt }
  · exact { h0 with fl := h.fl, eq := h.eq }
  · exact { h0 with fl := h.fl }
  · exact { h0 with kind := h.kind }
  · exact { h0 with id := h.id }
/-- What a reading of fields answers. -/
structure FieldR (k : CK) (kd q : Int) (s : RB) (y : CmdM × RB) : Prop where
  bad : s.bad = false
  t : s.t = fieldsB k y.1 ++ y.2.t
  ok : y.1.ok
  bare : bareF k y.1 = y.1
  kind : y.1.kind = kd
  req : y.1.req = q
theorem wField_good {k : CK} {kd q : Int} {s : RB} (hk : i64ok kd) (hq : i64ok q) (hs : s.t.length ≤ 70368744177664) (h : (wField k kd q s).2.bad = false) : FieldR k kd q s (wField k kd q s) := by
  have h0 := hdC_ok hk hq
  cases k
  · have hle : (wInts 1 s).2.t.length ≤ s.t.length := by
      show (intO s.t).2.2.length ≤ _
      exact intO_len s.t
    unfold wField tk at h ⊢
    simp only at h ⊢
    obtain ⟨h3, e3, o3⟩ := (wRows_codec _).good _ h
    obtain ⟨h2, e2, o2⟩ := (wNum_codec _ (by omega)).good _ h3
    obtain ⟨h1, e1, o1⟩ := (wInts_codec 1).good _ h2
    refine ⟨h1, ?_, { h0 with id := getD_ok o1.2 0, rows := fun r hr => (o3.2 r hr).1 }, rfl, rfl, rfl⟩
    simp only [fieldsB]
    rw [← lst1 0 o1.1, o3.1]
    conv => lhs; rw [e1, e2, e3]
    simp
  · unfold wField tk at h ⊢
    simp only at h ⊢
    obtain ⟨h2, e2, o2⟩ := (wInts_codec 4).good _ h
    obtain ⟨h1, e1, o1⟩ := (wInts_codec 2).good _ h2
    refine ⟨h1, ?_, { h0 with id := getD_ok o1.2 0, eq := getD_ok o1.2 1, l0 := getD_ok o2.2 0, l1 := getD_ok o2.2 1, l2 := getD_ok o2.2 2, l3 := getD_ok o2.2 3 }, rfl, rfl, rfl⟩
    simp only [fieldsB]
    rw [← lst2 0 o1.1, ← lst4 0 o2.1]
    conv => lhs; rw [e1, e2]
    simp
  · unfold wField tk at h ⊢
    simp only at h ⊢
    obtain ⟨h2, e2, o2⟩ := (wMarks_codec 4 (by omega)).good _ h
    obtain ⟨h1, e1, o1⟩ := (wInts_codec 4).good _ h2
    refine ⟨h1, ?_, { h0 with id := getD_ok o1.2 0, fl := getD_ok o1.2 1, wcab := getD_ok o1.2 2, cls := getD_ok o1.2 3 }, rfl, rfl, rfl⟩
    simp only [fieldsB]
    rw [← lst4 0 o1.1, ← lst4 false o2]
    conv => lhs; rw [e1, e2]
    simp
  · unfold wField tk at h ⊢
    simp only at h ⊢
    obtain ⟨h2, e2, o2⟩ := (wNum_codec 255 (by omega)).good _ h
    obtain ⟨h1, e1, o1⟩ := (wInts_codec 2).good _ h2
    refine ⟨h1, ?_, { h0 with id := getD_ok o1.2 0, num := getD_ok o1.2 1, lt := (by simp only at o2 ⊢; omega) }, rfl, rfl, rfl⟩
    simp only [fieldsB]
    rw [← lst2 0 o1.1]
    conv => lhs; rw [e1, e2]
    simp
  · unfold wField tk at h ⊢
    simp only at h ⊢
    obtain ⟨h1, e1, o1⟩ := (wInts_codec 2).good _ h
    refine ⟨h1, ?_, { h0 with fl := getD_ok o1.2 0, eq := getD_ok o1.2 1 }, rfl, rfl, rfl⟩
    simp only [fieldsB]
    rw [← lst2 0 o1.1]
    exact e1
  · unfold wField tk at h ⊢
    simp only at h ⊢
    obtain ⟨h1, e1, o1⟩ := (wInts_codec 1).good _ h
    refine ⟨h1, ?_, { h0 with fl := getD_ok o1.2 0 }, rfl, rfl, rfl⟩
    simp only [fieldsB]
    rw [← lst1 0 o1.1]
    exact e1
  · unfold wField tk at h ⊢
    simp only at h ⊢
    obtain ⟨h1, e1, o1⟩ := wText_codec.good _ h
    exact ⟨h1, e1, { h0 with kind := hk }, rfl, rfl, rfl⟩
  · unfold wField tk at h ⊢
    simp only at h ⊢
    obtain ⟨h1, e1, o1⟩ := (wInts_codec 1).good _ h
    refine ⟨h1, ?_, { h0 with id := getD_ok o1.2 0 }, rfl, rfl, rfl⟩
    simp only [fieldsB]
    rw [← lst1 0 o1.1]
    exact e1
theorem all1 {a : Int} (ha : i64ok a) : [a].length = 1 ∧ ∀ z ∈ [a], i64ok z := ⟨rfl, by intro z hz; rw [List.mem_singleton] at hz; rw [hz]; exact ha⟩
theorem all2 {a b : Int} (ha : i64ok a) (hb : i64ok b) : [a, b].length = 2 ∧ ∀ z ∈ [a, b], i64ok z := ⟨rfl, by
  intro z hz
  rcases List.mem_cons.1 hz with rfl | hz
  · exact ha
  · exact (all1 hb).2 z hz⟩
theorem all3 {a b c : Int} (ha : i64ok a) (hb : i64ok b) (hc : i64ok c) : [a, b, c].length = 3 ∧ ∀ z ∈ [a, b, c], i64ok z := ⟨rfl, by
  intro z hz
  rcases List.mem_cons.1 hz with rfl | hz
  · exact ha
  · exact (all2 hb hc).2 z hz⟩
theorem all4 {a b c d : Int} (ha : i64ok a) (hb : i64ok b) (hc : i64ok c) (hd : i64ok d) : [a, b, c, d].length = 4 ∧ ∀ z ∈ [a, b, c, d], i64ok z := ⟨rfl, by
  intro z hz
  rcases List.mem_cons.1 hz with rfl | hz
  · exact ha
  · exact (all3 hb hc hd).2 z hz⟩
theorem wField_app {k : CK} {c : CmdM} (r : Bytes) (hc : c.ok) (hr : ∀ x ∈ c.rows, x.seats.length < 18446744073709551616) (ht : c.text.length < 18446744073709551616) (hl : (fieldsB k c ++ r).length ≤ 70368744177664) : wField k c.kind c.req ⟨fieldsB k c ++ r, false⟩ = (bareF k c, ⟨r, false⟩) := by
  cases k
  · simp only [fieldsB, List.append_assoc] at hl ⊢
    have hm := rowsBt_min c.rows
    simp only [List.length_append] at hl
    unfold wField tk
    simp only
    rw [(wInts_codec 1).app _ _ (all1 hc.id)]
    simp only
    rw [(wNum_codec _ (by simp only [List.length_append]; omega)).app _ _ (by simp only [List.length_append]; omega)]
    simp only
    rw [(wRows_codec _).app _ _ ⟨rfl, fun x hx => ⟨hc.rows x hx, hr x hx⟩⟩]
    rfl
  · simp only [fieldsB, List.append_assoc]
    unfold wField tk
    simp only
    rw [(wInts_codec 2).app _ _ (all2 hc.id hc.eq)]
    simp only
    rw [(wInts_codec 4).app _ _ (all4 hc.l0 hc.l1 hc.l2 hc.l3)]
    rfl
  · simp only [fieldsB, List.append_assoc]
    unfold wField tk
    simp only
    rw [(wInts_codec 4).app _ _ (all4 hc.id hc.fl hc.wcab hc.cls)]
    simp only
    rw [(wMarks_codec 4 (by omega)).app _ _ rfl]
    rfl
  · simp only [fieldsB, List.append_assoc]
    have := hc.lt
    unfold wField tk
    simp only
    rw [(wInts_codec 2).app _ _ (all2 hc.id hc.num)]
    simp only
    rw [(wNum_codec 255 (by omega)).app _ _ (by omega)]
    rfl
  · simp only [fieldsB]
    unfold wField tk
    simp only
    rw [(wInts_codec 2).app _ _ (all2 hc.fl hc.eq)]
    rfl
  · simp only [fieldsB]
    unfold wField tk
    simp only
    rw [(wInts_codec 1).app _ _ (all1 hc.fl)]
    rfl
  · simp only [fieldsB]
    unfold wField tk
    simp only
    rw [wText_codec.app _ _ ht]
    rfl
  · simp only [fieldsB]
    unfold wField tk
    simp only
    rw [(wInts_codec 1).app _ _ (all1 hc.id)]
    rfl
def smallC (c : CmdM) : Bool := decide (c.rows.length ≤ 20) && decide (c.text.length ≤ 200) && c.rows.all fun r => decide (r.seats.length ≤ 40)
def cmdB (c : CmdM) : Bytes := numB c.kind.toNat ++ (intB c.req ++ fieldsB (ckOf c.kind) c)
/-- The command of a payload. -/
def cmdS (t : Bytes) : Option CmdM := tk (wNum 15 ⟨t, false⟩) fun k s => tk (rbInt s) fun q s =>
  if s.bad = true ∨ k = 0 then none else tk (wField (ckOf k) k q s) fun c s => if s.bad = true ∨ s.t ≠ [] ∨ smallC c = false then none else some c
/-- Is the command right? -/
def RightC (c : CmdM) : Prop := 1 ≤ c.kind ∧ c.kind ≤ 15 ∧ smallC c = true ∧ bareF (ckOf c.kind) c = c
instance (c : CmdM) : Decidable (RightC c) := inferInstanceAs (Decidable (_ ∧ _ ∧ _ ∧ _))
theorem small_iff {c : CmdM} : smallC c = true ↔ c.rows.length ≤ 20 ∧ c.text.length ≤ 200 ∧ ∀ r ∈ c.rows, r.seats.length ≤ 40 := by
  unfold smallC
  rw [Bool.and_eq_true, Bool.and_eq_true, decide_eq_true_iff, decide_eq_true_iff, List.all_eq_true, and_assoc]
  simp
theorem small_bare (k : CK) {c : CmdM} (h : smallC c = true) : smallC (bareF k c) = true := by
  obtain ⟨h1, h2, h3⟩ := small_iff.1 h
  refine small_iff.2 ?_
  cases k
  · exact ⟨h1, Nat.zero_le _, h3⟩
  · exact ⟨Nat.zero_le _, Nat.zero_le _, by nofun⟩
  · exact ⟨Nat.zero_le _, Nat.zero_le _, by nofun⟩
  · exact ⟨Nat.zero_le _, Nat.zero_le _, by nofun⟩
  · exact ⟨Nat.zero_le _, Nat.zero_le _, by nofun⟩
  · exact ⟨Nat.zero_le _, Nat.zero_le _, by nofun⟩
  · exact ⟨Nat.zero_le _, h2, by nofun⟩
  · exact ⟨Nat.zero_le _, Nat.zero_le _, by nofun⟩
theorem cmdS_iff {t : Bytes} (ht : t.length ≤ 70368744177664) {c : CmdM} : cmdS t = some c ↔ t = cmdB c ∧ c.ok ∧ RightC c := by
  constructor
  · intro h
    unfold cmdS tk at h
    simp only at h
    split at h
    · cases h
    · next h1 =>
      obtain ⟨h1, h2⟩ := not_or.1 h1
      split at h
      · cases h
      · next h3 =>
        obtain ⟨h3, h4⟩ := not_or.1 h3
        obtain ⟨h4, h5⟩ := not_or.1 h4
        have h1 := Bool.eq_false_iff.2 h1
        have h3 := Bool.eq_false_iff.2 h3
        have h4 := Decidable.not_not.1 h4
        obtain ⟨b1, e1, o1⟩ := rbInt_good h1
        obtain ⟨-, e0, o0⟩ := (wNum_codec 15 (by omega)).good _ b1
        have e0 : t = _ := e0
        have hl0 : (wNum 15 ⟨t, false⟩).2.t.length ≤ t.length := by
          conv => rhs; rw [e0]
          rw [List.length_append]; omega
        have hl1 : (rbInt (wNum 15 ⟨t, false⟩).2).2.t.length ≤ (wNum 15 ⟨t, false⟩).2.t.length := intO_len _
        generalize hn : (wNum 15 ⟨t, false⟩).1 = n at h h1 h2 h3 h4 h5 e0 o0
        generalize (wNum 15 ⟨t, false⟩).2 = s1 at h h1 h3 h4 h5 e0 b1 e1 o1 hl0 hl1
        generalize (rbInt s1).1 = q at h h1 h3 h4 h5 e1 o1
        generalize (rbInt s1).2 = s2 at h h1 h3 h4 h5 e1 hl1
        have hF := wField_good (k := ckOf (n : Int)) (kd := n) (q := q) (s := s2) ⟨by omega, by omega⟩ o1 (by omega) h3
        generalize wField (ckOf (n : Int)) n q s2 = y at h h3 h4 h5 hF
        simp only [Option.some.injEq] at h
        subst h
        have hk := hF.kind
        refine ⟨?_, hF.ok, by omega, by omega, by simpa using h5, by rw [hk]; exact hF.bare⟩
        unfold cmdB
        rw [hk, hF.req]
        have e2 := hF.t
        rw [h4, List.append_nil] at e2
        rw [← e2, ← e1, show ((n : Nat) : Int).toNat = n from rfl]
        exact e0
  · rintro ⟨rfl, hc, h1, h2, h3, h4⟩
    obtain ⟨p1, p2, p3⟩ := small_iff.1 h3
    unfold cmdB at ht ⊢
    unfold cmdS
    rw [(wNum_codec 15 (by omega)).app _ _ (by omega)]
    unfold tk
    simp only
    rw [rbInt_app _ _ hc.req]
    simp only
    rw [if_neg (by rintro (h | h); (· cases h); omega)]
    have e : ((c.kind.toNat : Nat) : Int) = c.kind := by omega
    rw [e]
    have hl : (fieldsB (ckOf c.kind) c ++ []).length ≤ 70368744177664 := by
      simp only [List.length_append, List.length_nil] at ht ⊢; omega
    have := wField_app (k := ckOf c.kind) [] hc (fun x hx => by have := p3 x hx; omega) (by omega) hl
    rw [List.append_nil] at this
    rw [this, h4]
    simp [h3]
theorem cmdB_bare (c : CmdM) : cmdB (bareF (ckOf c.kind) c) = cmdB c := by
  unfold cmdB; rw [bare_kind, bare_req, bare_fields]
/-- What was written of a small command is read as the command that its kind has bytes for. -/
theorem cmdS_cmdB {c : CmdM} (hl : (cmdB c).length ≤ 70368744177664) (hc : c.ok) (h1 : 1 ≤ c.kind) (h2 : c.kind ≤ 15) (h3 : smallC c = true) : cmdS (cmdB c) = some (bareF (ckOf c.kind) c) := by
  refine (cmdS_iff hl).2 ⟨(cmdB_bare c).symm, bare_ok _ hc, ?_, ?_, small_bare _ h3, ?_⟩
  · rw [bare_kind]; exact h1
  · rw [bare_kind]; exact h2
  · rw [bare_kind, bare_bare]
end Go.Proofs.YthpmmfapolcaiaaGreatDoor

/- Plain: bits and lengths of what is read. -/
namespace Go.Proofs.YthpmmfapolcaiaaGreatDoor
open Go Go.Eng Go.Proofs
theorem rbInt_len' (s : RB) : (rbInt s).2.t.length ≤ s.t.length := intO_len s.t
theorem wInts_succ : ∀ (k : Nat) (s : RB), wInts (k + 1) s = ((wInts k s).1 ++ [(rbInt (wInts k s).2).1], (rbInt (wInts k s).2).2)
  | 0, s => rfl
  | k + 1, s => by
    have := wInts_succ k (rbInt s).2
    show ((rbInt s).1 :: (wInts (k + 1) (rbInt s).2).1, (wInts (k + 1) (rbInt s).2).2) = _
    rw [this]; rfl
theorem wInts_tlen : ∀ (k : Nat) (s : RB), (wInts k s).2.t.length ≤ s.t.length
  | 0, _ => Nat.le_refl _
  | k + 1, s => Nat.le_trans (wInts_tlen k _) (rbInt_len' s)
theorem wNum_tlen (most : Nat) (s : RB) : (wNum most s).2.t.length ≤ s.t.length := by
  have := numO_len s.t
  unfold wNum; split <;> exact this
theorem wText_tlen (s : RB) : (wText s).2.t.length ≤ s.t.length := by
  have := textO_len s.t
  unfold wText; simp only; omega
theorem textO_err (t : Bytes) : (textO t).2.1 = 0 ∨ (textO t).2.1 = 1 := by
  unfold textO
  cases textR t with
  | none => exact .inr rfl
  | some x => exact .inl rfl
theorem bitsN_get : ∀ (k n i : Nat) (h : i < (bitsN k n).length), (bitsN k n)[i] = decide (n / 2 ^ i % 2 = 1)
  | 0, _, _, h => by simp [bitsN] at h
  | k + 1, n, 0, _ => by simp [bitsN]
  | k + 1, n, i + 1, h => by
    have := bitsN_get k (n / 2) i (by simpa [bitsN] using h)
    simp only [bitsN, List.getElem_cons_succ]
    rw [this, Nat.div_div_eq_div_mul, Nat.pow_succ, Nat.mul_comm]
theorem shr_u (n i : Nat) (hi : i < 64) : (n : Int).fdiv (2 ^ (min ((i : Int)).toNat IntKind.u64.bits)) = ((n / 2 ^ i : Nat) : Int) := by
  have e : min ((i : Int)).toNat IntKind.u64.bits = i := by show min i 64 = i; omega
  rw [e]
  have h2 : ((2 : Int) ^ i) = ((2 ^ i : Nat) : Int) := by simp
  rw [h2, Int.fdiv_eq_ediv_of_nonneg _ (Int.natCast_nonneg _)]
  exact (Int.natCast_ediv n (2 ^ i)).symm
theorem and_one (n : Nat) (h : n < 18446744073709551616) : andI .u64 (n : Int) 1 = ((n % 2 : Nat) : Int) := by
  have e := andU .u64 rfl n 1 (show n < 18446744073709551616 by omega) (show 1 < 18446744073709551616 by omega)
  rw [Nat.and_one_is_mod] at e
  exact e
end Go.Proofs.YthpmmfapolcaiaaGreatDoor
