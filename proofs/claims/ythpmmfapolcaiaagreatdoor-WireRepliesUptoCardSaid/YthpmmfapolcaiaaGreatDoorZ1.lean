/- Texts of this claim, one behind the other. -/
import Derived.Test.YthpmmfapolcaiaaGreatDoorProg
import Derived.Test.YthpmmfapolcaiaaGreatDoorZ0
import Derived.Laws.IdiomStrings
/- MADE BY PROGRAM (gen.py) out of this seat's translation: the types' table with its proof, the functions' and types' numbers under names, each function's way in. No statement of the seat is here. -/
namespace Go.Proofs.YthpmmfapolcaiaaGreatDoor
open Go Go.Eng Go.Proofs

def tbl : Tbl := [
  (2, ⟨.int .i64, 1, 8, .int .i64 0⟩),
  (3, ⟨.int .i64, 1, 8, .int .i64 0⟩),
  (4, ⟨.bool, 1, 1, .bool false⟩),
  (5, ⟨.int .u8, 1, 1, .int .u8 0⟩),
  (9, ⟨.str, 1, 16, .string ⟨⟨[]⟩⟩⟩),
  (21, ⟨.int .i32, 1, 4, .int .i32 0⟩),
  (22, ⟨.int .i64, 1, 8, .int .i64 0⟩),
  (23, ⟨.slice 3 1, 1, 24, .slice none 0 0⟩),
  (24, ⟨.arr 4 3 1, 4, 32, .agg ⟨[.int .i64 0, .int .i64 0, .int .i64 0, .int .i64 0]⟩⟩),
  (26, ⟨.struct [(0, 1), (1, 1), (2, 1)], 3, 16, .agg ⟨[.int .i64 0, .bool false, .bool false]⟩⟩),
  (28, ⟨.struct [(0, 1), (1, 1)], 2, 16, .agg ⟨[.int .i64 0, .int .u8 0]⟩⟩),
  (30, ⟨.struct [(0, 1), (1, 1), (2, 3), (5, 1), (6, 1), (7, 1), (8, 1), (9, 1), (10, 1), (11, 2)], 13, 88, .agg ⟨[.int .i64 0, .int .i64 0, .int .i64 0, .bool false, .bool false, .bool false, .bool false, .int .i64 0, .int .i64 0, .int .i64 0, .int .i64 0, .int .i64 0, .int .u8 0]⟩⟩),
  (32, ⟨.struct [(0, 1), (1, 1), (2, 4), (6, 1), (7, 13), (20, 1)], 21, 176, .agg ⟨[.int .i64 0, .slice none 0 0, .int .i64 0, .int .i64 0, .int .i64 0, .int .i64 0, .bool false, .int .i64 0, .int .i64 0, .int .i64 0, .bool false, .bool false, .bool false, .bool false, .int .i64 0, .int .i64 0, .int .i64 0, .int .i64 0, .int .i64 0, .int .u8 0, .string ⟨⟨[]⟩⟩]⟩⟩),
  (40, ⟨.slice 42 3, 1, 24, .slice none 0 0⟩),
  (42, ⟨.struct [(0, 1), (1, 1), (2, 1)], 3, 40, .agg ⟨[.string ⟨⟨[]⟩⟩, .bool false, .string ⟨⟨[]⟩⟩]⟩⟩),
  (43, ⟨.slice 110 2, 1, 24, .slice none 0 0⟩),
  (44, ⟨.slice 100 8, 1, 24, .slice none 0 0⟩),
  (45, ⟨.slice 30 13, 1, 24, .slice none 0 0⟩),
  (47, ⟨.struct [(0, 1), (1, 1), (2, 1)], 3, 72, .agg ⟨[.slice none 0 0, .slice none 0 0, .slice none 0 0]⟩⟩),
  (57, ⟨.int .u64, 1, 8, .int .u64 0⟩),
  (60, ⟨.slice 120 5, 1, 24, .slice none 0 0⟩),
  (62, ⟨.struct [(0, 1), (1, 1), (2, 1), (3, 1), (4, 1), (5, 1), (6, 3), (9, 1), (10, 1), (11, 2), (13, 1), (14, 4), (18, 1)], 19, 160, .agg ⟨[.int .i64 0, .int .i64 0, .int .i64 0, .int .i64 0, .int .i64 0, .int .i64 0, .int .i64 0, .bool false, .bool false, .bool false, .bool false, .int .i64 0, .int .u8 0, .slice none 0 0, .int .i64 0, .int .i64 0, .int .i64 0, .int .i64 0, .string ⟨⟨[]⟩⟩]⟩⟩),
  (65, ⟨.ptr 144, 1, 8, .pointer none⟩),
  (68, ⟨.struct [(0, 1)], 1, 8, .agg ⟨[.pointer none]⟩⟩),
  (71, ⟨.ptr 32, 1, 8, .pointer none⟩),
  (72, ⟨.ptr 9, 1, 8, .pointer none⟩),
  (76, ⟨.int .u64, 1, 8, .int .u64 0⟩),
  (81, ⟨.ptr 88, 1, 8, .pointer none⟩),
  (86, ⟨.ptr 159, 1, 8, .pointer none⟩),
  (88, ⟨.struct [(0, 1), (1, 1)], 2, 16, .agg ⟨[.pointer none, .bool false]⟩⟩),
  (89, ⟨.ptr 96, 1, 8, .pointer none⟩),
  (94, ⟨.ptr 161, 1, 8, .pointer none⟩),
  (96, ⟨.struct [(0, 1), (1, 1)], 2, 16, .agg ⟨[.pointer none, .int .i64 0]⟩⟩),
  (100, ⟨.struct [(0, 1), (1, 1), (2, 1), (3, 1), (4, 4)], 8, 64, .agg ⟨[.int .i64 0, .int .i64 0, .int .i64 0, .int .i64 0, .int .i64 0, .int .i64 0, .int .i64 0, .int .i64 0]⟩⟩),
  (104, ⟨.fn, 1, 8, .nilFunc⟩),
  (106, ⟨.ptr 47, 1, 8, .pointer none⟩),
  (110, ⟨.struct [(0, 1), (1, 1)], 2, 32, .agg ⟨[.int .i64 0, .slice none 0 0]⟩⟩),
  (120, ⟨.struct [(0, 1), (1, 1), (2, 1), (3, 1), (4, 1)], 5, 48, .agg ⟨[.int .i64 0, .int .i64 0, .int .i64 0, .bool false, .string ⟨⟨[]⟩⟩]⟩⟩),
  (122, ⟨.ptr 62, 1, 8, .pointer none⟩),
  (126, ⟨.slice 9 1, 1, 24, .slice none 0 0⟩),
  (127, ⟨.ptr 130, 1, 8, .pointer none⟩),
  (128, ⟨.slice 5 1, 1, 24, .slice none 0 0⟩),
  (130, ⟨.struct [(0, 1), (1, 1)], 2, 32, .agg ⟨[.pointer none, .slice none 0 0]⟩⟩),
  (132, ⟨.int .u32, 1, 4, .int .u32 0⟩),
  (134, ⟨.iface, 1, 16, .nilIface⟩),
  (142, ⟨.struct [(0, 1)], 1, 8, .agg ⟨[.int .i64 0]⟩⟩),
  (144, ⟨.struct [(0, 1), (1, 1)], 2, 32, .agg ⟨[.int .i64 0, .slice none 0 0]⟩⟩),
  (146, ⟨.iface, 1, 16, .nilIface⟩),
  (148, ⟨.ptr 3, 1, 8, .pointer none⟩),
  (151, ⟨.ptr 4, 1, 8, .pointer none⟩),
  (159, ⟨.struct [(0, 1)], 1, 16, .agg ⟨[.string ⟨⟨[]⟩⟩]⟩⟩),
  (161, ⟨.struct [(0, 1)], 1, 16, .agg ⟨[.string ⟨⟨[]⟩⟩]⟩⟩),
  (166, ⟨.arr 6 3 1, 6, 48, .agg ⟨[.int .i64 0, .int .i64 0, .int .i64 0, .int .i64 0, .int .i64 0, .int .i64 0]⟩⟩),
  (168, ⟨.slice 172 3, 1, 24, .slice none 0 0⟩),
  (172, ⟨.struct [(0, 1), (1, 1), (2, 1)], 3, 32, .agg ⟨[.int .i64 0, .int .i64 0, .string ⟨⟨[]⟩⟩]⟩⟩),
  (173, ⟨.ptr 175, 1, 8, .pointer none⟩),
  (175, ⟨.struct [(0, 1), (1, 1)], 2, 16, .agg ⟨[.pointer none, .bool false]⟩⟩),
  (180, ⟨.fn, 1, 8, .nilFunc⟩),
  (182, ⟨.fn, 1, 8, .nilFunc⟩),
  (184, ⟨.fn, 1, 8, .nilFunc⟩),
  (187, ⟨.arr 7 3 1, 7, 56, .agg ⟨[.int .i64 0, .int .i64 0, .int .i64 0, .int .i64 0, .int .i64 0, .int .i64 0, .int .i64 0]⟩⟩),
  (192, ⟨.struct [(0, 1)], 1, 8, .agg ⟨[.pointer none]⟩⟩),
  (196, ⟨.fn, 1, 8, .nilFunc⟩),
  (197, ⟨.slice 76 1, 1, 24, .slice none 0 0⟩),
  (201, ⟨.ptr 5, 1, 8, .pointer none⟩),
  (211, ⟨.slice 4 1, 1, 24, .slice none 0 0⟩),
  (216, ⟨.ptr 218, 1, 8, .pointer none⟩),
  (218, ⟨.struct [(0, 2)], 2, 32, .agg ⟨[.pointer none, .slice none 0 0]⟩⟩),
  (222, ⟨.slice 148 1, 1, 24, .slice none 0 0⟩),
  (226, ⟨.int .i64, 1, 8, .int .i64 0⟩),
  (229, ⟨.ptr 243, 1, 8, .pointer none⟩),
  (233, ⟨.arr 8 5 1, 8, 8, .agg ⟨[.int .u8 0, .int .u8 0, .int .u8 0, .int .u8 0, .int .u8 0, .int .u8 0, .int .u8 0, .int .u8 0]⟩⟩),
  (236, ⟨.arr 24 5 1, 24, 24, .agg ⟨[.int .u8 0, .int .u8 0, .int .u8 0, .int .u8 0, .int .u8 0, .int .u8 0, .int .u8 0, .int .u8 0, .int .u8 0, .int .u8 0, .int .u8 0, .int .u8 0, .int .u8 0, .int .u8 0, .int .u8 0, .int .u8 0, .int .u8 0, .int .u8 0, .int .u8 0, .int .u8 0, .int .u8 0, .int .u8 0, .int .u8 0, .int .u8 0]⟩⟩),
  (243, ⟨.struct [(0, 1), (1, 1), (2, 1)], 3, 48, .agg ⟨[.string ⟨⟨[]⟩⟩, .string ⟨⟨[]⟩⟩, .nilIface]⟩⟩),
  (247, ⟨.arr 20 76 1, 20, 160, .agg ⟨[.int .u64 0, .int .u64 0, .int .u64 0, .int .u64 0, .int .u64 0, .int .u64 0, .int .u64 0, .int .u64 0, .int .u64 0, .int .u64 0, .int .u64 0, .int .u64 0, .int .u64 0, .int .u64 0, .int .u64 0, .int .u64 0, .int .u64 0, .int .u64 0, .int .u64 0, .int .u64 0]⟩⟩),
  (248, ⟨.arr 65 5 1, 65, 65, .agg ⟨[.int .u8 0, .int .u8 0, .int .u8 0, .int .u8 0, .int .u8 0, .int .u8 0, .int .u8 0, .int .u8 0, .int .u8 0, .int .u8 0, .int .u8 0, .int .u8 0, .int .u8 0, .int .u8 0, .int .u8 0, .int .u8 0, .int .u8 0, .int .u8 0, .int .u8 0, .int .u8 0, .int .u8 0, .int .u8 0, .int .u8 0, .int .u8 0, .int .u8 0, .int .u8 0, .int .u8 0, .int .u8 0, .int .u8 0, .int .u8 0, .int .u8 0, .int .u8 0, .int .u8 0, .int .u8 0, .int .u8 0, .int .u8 0, .int .u8 0, .int .u8 0, .int .u8 0, .int .u8 0, .int .u8 0, .int .u8 0, .int .u8 0, .int .u8 0, .int .u8 0, .int .u8 0, .int .u8 0, .int .u8 0, .int .u8 0, .int .u8 0, .int .u8 0, .int .u8 0, .int .u8 0, .int .u8 0, .int .u8 0, .int .u8 0, .int .u8 0, .int .u8 0, .int .u8 0, .int .u8 0, .int .u8 0, .int .u8 0, .int .u8 0, .int .u8 0, .int .u8 0]⟩⟩),
  (253, ⟨.ptr 255, 1, 8, .pointer none⟩),
  (255, ⟨.struct [(0, 1)], 1, 16, .agg ⟨[.string ⟨⟨[]⟩⟩]⟩⟩),
  (261, ⟨.arr 32 5 1, 32, 32, .agg ⟨[.int .u8 0, .int .u8 0, .int .u8 0, .int .u8 0, .int .u8 0, .int .u8 0, .int .u8 0, .int .u8 0, .int .u8 0, .int .u8 0, .int .u8 0, .int .u8 0, .int .u8 0, .int .u8 0, .int .u8 0, .int .u8 0, .int .u8 0, .int .u8 0, .int .u8 0, .int .u8 0, .int .u8 0, .int .u8 0, .int .u8 0, .int .u8 0, .int .u8 0, .int .u8 0, .int .u8 0, .int .u8 0, .int .u8 0, .int .u8 0, .int .u8 0, .int .u8 0]⟩⟩),
  (262, ⟨.arr 64 5 1, 64, 64, .agg ⟨[.int .u8 0, .int .u8 0, .int .u8 0, .int .u8 0, .int .u8 0, .int .u8 0, .int .u8 0, .int .u8 0, .int .u8 0, .int .u8 0, .int .u8 0, .int .u8 0, .int .u8 0, .int .u8 0, .int .u8 0, .int .u8 0, .int .u8 0, .int .u8 0, .int .u8 0, .int .u8 0, .int .u8 0, .int .u8 0, .int .u8 0, .int .u8 0, .int .u8 0, .int .u8 0, .int .u8 0, .int .u8 0, .int .u8 0, .int .u8 0, .int .u8 0, .int .u8 0, .int .u8 0, .int .u8 0, .int .u8 0, .int .u8 0, .int .u8 0, .int .u8 0, .int .u8 0, .int .u8 0, .int .u8 0, .int .u8 0, .int .u8 0, .int .u8 0, .int .u8 0, .int .u8 0, .int .u8 0, .int .u8 0, .int .u8 0, .int .u8 0, .int .u8 0, .int .u8 0, .int .u8 0, .int .u8 0, .int .u8 0, .int .u8 0, .int .u8 0, .int .u8 0, .int .u8 0, .int .u8 0, .int .u8 0, .int .u8 0, .int .u8 0, .int .u8 0]⟩⟩),
  (264, ⟨.arr 256 5 1, 256, 256, .agg ⟨[.int .u8 0, .int .u8 0, .int .u8 0, .int .u8 0, .int .u8 0, .int .u8 0, .int .u8 0, .int .u8 0, .int .u8 0, .int .u8 0, .int .u8 0, .int .u8 0, .int .u8 0, .int .u8 0, .int .u8 0, .int .u8 0, .int .u8 0, .int .u8 0, .int .u8 0, .int .u8 0, .int .u8 0, .int .u8 0, .int .u8 0, .int .u8 0, .int .u8 0, .int .u8 0, .int .u8 0, .int .u8 0, .int .u8 0, .int .u8 0, .int .u8 0, .int .u8 0, .int .u8 0, .int .u8 0, .int .u8 0, .int .u8 0, .int .u8 0, .int .u8 0, .int .u8 0, .int .u8 0, .int .u8 0, .int .u8 0, .int .u8 0, .int .u8 0, .int .u8 0, .int .u8 0, .int .u8 0, .int .u8 0, .int .u8 0, .int .u8 0, .int .u8 0, .int .u8 0, .int .u8 0, .int .u8 0, .int .u8 0, .int .u8 0, .int .u8 0, .int .u8 0, .int .u8 0, .int .u8 0, .int .u8 0, .int .u8 0, .int .u8 0, .int .u8 0, .int .u8 0, .int .u8 0, .int .u8 0, .int .u8 0, .int .u8 0, .int .u8 0, .int .u8 0, .int .u8 0, .int .u8 0, .int .u8 0, .int .u8 0, .int .u8 0, .int .u8 0, .int .u8 0, .int .u8 0, .int .u8 0, .int .u8 0, .int .u8 0, .int .u8 0, .int .u8 0, .int .u8 0, .int .u8 0, .int .u8 0, .int .u8 0, .int .u8 0, .int .u8 0, .int .u8 0, .int .u8 0, .int .u8 0, .int .u8 0, .int .u8 0, .int .u8 0, .int .u8 0, .int .u8 0, .int .u8 0, .int .u8 0, .int .u8 0, .int .u8 0, .int .u8 0, .int .u8 0, .int .u8 0, .int .u8 0, .int .u8 0, .int .u8 0, .int .u8 0, .int .u8 0, .int .u8 0, .int .u8 0, .int .u8 0, .int .u8 0, .int .u8 0, .int .u8 0, .int .u8 0, .int .u8 0, .int .u8 0, .int .u8 0, .int .u8 0, .int .u8 0, .int .u8 0, .int .u8 0, .int .u8 0, .int .u8 0, .int .u8 0, .int .u8 0, .int .u8 0, .int .u8 0, .int .u8 0, .int .u8 0, .int .u8 0, .int .u8 0, .int .u8 0, .int .u8 0, .int .u8 0, .int .u8 0, .int .u8 0, .int .u8 0, .int .u8 0, .int .u8 0, .int .u8 0, .int .u8 0, .int .u8 0, .int .u8 0, .int .u8 0, .int .u8 0, .int .u8 0, .int .u8 0, .int .u8 0, .int .u8 0, .int .u8 0, .int .u8 0, .int .u8 0, .int .u8 0, .int .u8 0, .int .u8 0, .int .u8 0, .int .u8 0, .int .u8 0, .int .u8 0, .int .u8 0, .int .u8 0, .int .u8 0, .int .u8 0, .int .u8 0, .int .u8 0, .int .u8 0, .int .u8 0, .int .u8 0, .int .u8 0, .int .u8 0, .int .u8 0, .int .u8 0, .int .u8 0, .int .u8 0, .int .u8 0, .int .u8 0, .int .u8 0, .int .u8 0, .int .u8 0, .int .u8 0, .int .u8 0, .int .u8 0, .int .u8 0, .int .u8 0, .int .u8 0, .int .u8 0, .int .u8 0, .int .u8 0, .int .u8 0, .int .u8 0, .int .u8 0, .int .u8 0, .int .u8 0, .int .u8 0, .int .u8 0, .int .u8 0, .int .u8 0, .int .u8 0, .int .u8 0, .int .u8 0, .int .u8 0, .int .u8 0, .int .u8 0, .int .u8 0, .int .u8 0, .int .u8 0, .int .u8 0, .int .u8 0, .int .u8 0, .int .u8 0, .int .u8 0, .int .u8 0, .int .u8 0, .int .u8 0, .int .u8 0, .int .u8 0, .int .u8 0, .int .u8 0, .int .u8 0, .int .u8 0, .int .u8 0, .int .u8 0, .int .u8 0, .int .u8 0, .int .u8 0, .int .u8 0, .int .u8 0, .int .u8 0, .int .u8 0, .int .u8 0, .int .u8 0, .int .u8 0, .int .u8 0, .int .u8 0, .int .u8 0, .int .u8 0, .int .u8 0, .int .u8 0, .int .u8 0, .int .u8 0, .int .u8 0, .int .u8 0, .int .u8 0, .int .u8 0, .int .u8 0, .int .u8 0, .int .u8 0, .int .u8 0, .int .u8 0, .int .u8 0, .int .u8 0, .int .u8 0, .int .u8 0]⟩⟩),
  (266, ⟨.struct [(0, 1), (1, 1)], 2, 2, .agg ⟨[.int .u8 0, .int .u8 0]⟩⟩),
  (267, ⟨.arr 16 266 2, 32, 32, .agg ⟨[.int .u8 0, .int .u8 0, .int .u8 0, .int .u8 0, .int .u8 0, .int .u8 0, .int .u8 0, .int .u8 0, .int .u8 0, .int .u8 0, .int .u8 0, .int .u8 0, .int .u8 0, .int .u8 0, .int .u8 0, .int .u8 0, .int .u8 0, .int .u8 0, .int .u8 0, .int .u8 0, .int .u8 0, .int .u8 0, .int .u8 0, .int .u8 0, .int .u8 0, .int .u8 0, .int .u8 0, .int .u8 0, .int .u8 0, .int .u8 0, .int .u8 0, .int .u8 0]⟩⟩),
  (282, ⟨.slice 151 1, 1, 24, .slice none 0 0⟩)]
theorem tblOk : TOk Tryz.prog tbl :=
  .cons ⟨by kernel_rfl, Tryz.underlying2⟩ (
  .cons ⟨by kernel_rfl, Tryz.underlying3⟩ (
  .cons ⟨by kernel_rfl, Tryz.underlying4⟩ (
  .cons ⟨by kernel_rfl, Tryz.underlying5⟩ (
  .cons ⟨by kernel_rfl, Tryz.underlying9⟩ (
  .cons ⟨by kernel_rfl, Tryz.underlying21⟩ (
  .cons ⟨by kernel_rfl, Tryz.underlying22⟩ (
  .cons ⟨by kernel_rfl, ⟨Tryz.underlying23, by kernel_rfl⟩⟩ (
  .cons ⟨by kernel_rfl, ⟨Tryz.underlying24, by kernel_rfl⟩⟩ (
  .cons ⟨by kernel_rfl, ⟨_, Tryz.underlying26, by kernel_rfl⟩⟩ (
  .cons ⟨by kernel_rfl, ⟨_, Tryz.underlying28, by kernel_rfl⟩⟩ (
  .cons ⟨by kernel_rfl, ⟨_, Tryz.underlying30, by kernel_rfl⟩⟩ (
  .cons ⟨by kernel_rfl, ⟨_, Tryz.underlying32, by kernel_rfl⟩⟩ (
  .cons ⟨by kernel_rfl, ⟨Tryz.underlying40, by kernel_rfl⟩⟩ (
  .cons ⟨by kernel_rfl, ⟨_, Tryz.underlying42, by kernel_rfl⟩⟩ (
  .cons ⟨by kernel_rfl, ⟨Tryz.underlying43, by kernel_rfl⟩⟩ (
  .cons ⟨by kernel_rfl, ⟨Tryz.underlying44, by kernel_rfl⟩⟩ (
  .cons ⟨by kernel_rfl, ⟨Tryz.underlying45, by kernel_rfl⟩⟩ (
  .cons ⟨by kernel_rfl, ⟨_, Tryz.underlying47, by kernel_rfl⟩⟩ (
  .cons ⟨by kernel_rfl, Tryz.underlying57⟩ (
  .cons ⟨by kernel_rfl, ⟨Tryz.underlying60, by kernel_rfl⟩⟩ (
  .cons ⟨by kernel_rfl, ⟨_, Tryz.underlying62, by kernel_rfl⟩⟩ (
  .cons ⟨by kernel_rfl, Tryz.underlying65⟩ (
  .cons ⟨by kernel_rfl, ⟨_, Tryz.underlying68, by kernel_rfl⟩⟩ (
  .cons ⟨by kernel_rfl, Tryz.underlying71⟩ (
  .cons ⟨by kernel_rfl, Tryz.underlying72⟩ (
  .cons ⟨by kernel_rfl, Tryz.underlying76⟩ (
  .cons ⟨by kernel_rfl, Tryz.underlying81⟩ (
  .cons ⟨by kernel_rfl, Tryz.underlying86⟩ (
  .cons ⟨by kernel_rfl, ⟨_, Tryz.underlying88, by kernel_rfl⟩⟩ (
  .cons ⟨by kernel_rfl, Tryz.underlying89⟩ (
  .cons ⟨by kernel_rfl, Tryz.underlying94⟩ (
  .cons ⟨by kernel_rfl, ⟨_, Tryz.underlying96, by kernel_rfl⟩⟩ (
  .cons ⟨by kernel_rfl, ⟨_, Tryz.underlying100, by kernel_rfl⟩⟩ (
  .cons ⟨by kernel_rfl, ⟨_, _, _, Tryz.underlying104⟩⟩ (
  .cons ⟨by kernel_rfl, Tryz.underlying106⟩ (
  .cons ⟨by kernel_rfl, ⟨_, Tryz.underlying110, by kernel_rfl⟩⟩ (
  .cons ⟨by kernel_rfl, ⟨_, Tryz.underlying120, by kernel_rfl⟩⟩ (
  .cons ⟨by kernel_rfl, Tryz.underlying122⟩ (
  .cons ⟨by kernel_rfl, ⟨Tryz.underlying126, by kernel_rfl⟩⟩ (
  .cons ⟨by kernel_rfl, Tryz.underlying127⟩ (
  .cons ⟨by kernel_rfl, ⟨Tryz.underlying128, by kernel_rfl⟩⟩ (
  .cons ⟨by kernel_rfl, ⟨_, Tryz.underlying130, by kernel_rfl⟩⟩ (
  .cons ⟨by kernel_rfl, Tryz.underlying132⟩ (
  .cons ⟨by kernel_rfl, ⟨_, Tryz.underlying134⟩⟩ (
  .cons ⟨by kernel_rfl, ⟨_, Tryz.underlying142, by kernel_rfl⟩⟩ (
  .cons ⟨by kernel_rfl, ⟨_, Tryz.underlying144, by kernel_rfl⟩⟩ (
  .cons ⟨by kernel_rfl, ⟨_, Tryz.underlying146⟩⟩ (
  .cons ⟨by kernel_rfl, Tryz.underlying148⟩ (
  .cons ⟨by kernel_rfl, Tryz.underlying151⟩ (
  .cons ⟨by kernel_rfl, ⟨_, Tryz.underlying159, by kernel_rfl⟩⟩ (
  .cons ⟨by kernel_rfl, ⟨_, Tryz.underlying161, by kernel_rfl⟩⟩ (
  .cons ⟨by kernel_rfl, ⟨Tryz.underlying166, by kernel_rfl⟩⟩ (
  .cons ⟨by kernel_rfl, ⟨Tryz.underlying168, by kernel_rfl⟩⟩ (
  .cons ⟨by kernel_rfl, ⟨_, Tryz.underlying172, by kernel_rfl⟩⟩ (
  .cons ⟨by kernel_rfl, Tryz.underlying173⟩ (
  .cons ⟨by kernel_rfl, ⟨_, Tryz.underlying175, by kernel_rfl⟩⟩ (
  .cons ⟨by kernel_rfl, ⟨_, _, _, Tryz.underlying180⟩⟩ (
  .cons ⟨by kernel_rfl, ⟨_, _, _, Tryz.underlying182⟩⟩ (
  .cons ⟨by kernel_rfl, ⟨_, _, _, Tryz.underlying184⟩⟩ (
  .cons ⟨by kernel_rfl, ⟨Tryz.underlying187, by kernel_rfl⟩⟩ (
  .cons ⟨by kernel_rfl, ⟨_, Tryz.underlying192, by kernel_rfl⟩⟩ (
  .cons ⟨by kernel_rfl, ⟨_, _, _, Tryz.underlying196⟩⟩ (
  .cons ⟨by kernel_rfl, ⟨Tryz.underlying197, by kernel_rfl⟩⟩ (
  .cons ⟨by kernel_rfl, Tryz.underlying201⟩ (
  .cons ⟨by kernel_rfl, ⟨Tryz.underlying211, by kernel_rfl⟩⟩ (
  .cons ⟨by kernel_rfl, Tryz.underlying216⟩ (
  .cons ⟨by kernel_rfl, ⟨_, Tryz.underlying218, by kernel_rfl⟩⟩ (
  .cons ⟨by kernel_rfl, ⟨Tryz.underlying222, by kernel_rfl⟩⟩ (
  .cons ⟨by kernel_rfl, Tryz.underlying226⟩ (
  .cons ⟨by kernel_rfl, Tryz.underlying229⟩ (
  .cons ⟨by kernel_rfl, ⟨Tryz.underlying233, by kernel_rfl⟩⟩ (
  .cons ⟨by kernel_rfl, ⟨Tryz.underlying236, by kernel_rfl⟩⟩ (
  .cons ⟨by kernel_rfl, ⟨_, Tryz.underlying243, by kernel_rfl⟩⟩ (
  .cons ⟨by kernel_rfl, ⟨Tryz.underlying247, by kernel_rfl⟩⟩ (
  .cons ⟨by kernel_rfl, ⟨Tryz.underlying248, by kernel_rfl⟩⟩ (
  .cons ⟨by kernel_rfl, Tryz.underlying253⟩ (
  .cons ⟨by kernel_rfl, ⟨_, Tryz.underlying255, by kernel_rfl⟩⟩ (
  .cons ⟨by kernel_rfl, ⟨Tryz.underlying261, by kernel_rfl⟩⟩ (
  .cons ⟨by kernel_rfl, ⟨Tryz.underlying262, by kernel_rfl⟩⟩ (
  .cons ⟨by kernel_rfl, ⟨Tryz.underlying264, by kernel_rfl⟩⟩ (
  .cons ⟨by kernel_rfl, ⟨_, Tryz.underlying266, by kernel_rfl⟩⟩ (
  .cons ⟨by kernel_rfl, ⟨Tryz.underlying267, by kernel_rfl⟩⟩ (
  .cons ⟨by kernel_rfl, ⟨Tryz.underlying282, by kernel_rfl⟩⟩ (
  .nil))))))))))))))))))))))))))))))))))))))))))))))))))))))))))))))))))))))))))))))))))))
theorem mixed : Tryz.prog.follows .mixedOrders = true := by kernel_rfl
abbrev T_ : Nat := 0
abbrev T_int : Nat := 3
abbrev T_bool : Nat := 4
abbrev T_uint8 : Nat := 5
abbrev T_string : Nat := 9
abbrev T_int32 : Nat := 21
abbrev T_4_int : Nat := 24
abbrev T_api_Who : Nat := 26
abbrev T_api_Seat : Nat := 28
abbrev T_api_Pax : Nat := 30
abbrev T_api_Reply : Nat := 32
abbrev T_api_Command : Nat := 62
abbrev T_wire_writer : Nat := 68
abbrev T_Ptr_wire_reader : Nat := 81
abbrev T_wire_reader : Nat := 88
abbrev T_tarmacref23_in : Nat := 96
abbrev T_api_Flight : Nat := 100
abbrev T_api_Row : Nat := 120
abbrev T_Ptr_strings_Builder : Nat := 127
abbrev T_Sl_uint8 : Nat := 128
abbrev T_strings_Builder : Nat := 130
abbrev T_pack_Writer : Nat := 144
abbrev T_Ptr_int : Nat := 148
abbrev T_pack_Reader : Nat := 159
abbrev T_tarmacref01_Reader : Nat := 161
abbrev T_6_int : Nat := 166
abbrev T_Ptr_uint8 : Nat := 201
abbrev T_unsafe_Pointer : Nat := 223
abbrev f_tarmaclaw23_WireReplies : Nat := 3
theorem en_tarmaclaw23_WireReplies {args : List Value} {w : World} {R : Value → World → Prop} (hlen : Nat.ble args.length 49 = true) (h : SemW Tryz.prog 49 (Tryz.f3.body.getD .skip) (retQ tbl [.tmp 4] R) (argEnv 0 args) w) : Cl Tryz.prog 3 args w R :=
  Cl.enter tblOk Tryz.call3 Tryz.func3 Tryz.ntmps3 rfl Tryz.results3 hlen h
abbrev f_tarmaclaw23_lives : Nat := 6
theorem en_tarmaclaw23_lives {args : List Value} {w : World} {R : Value → World → Prop} (hlen : Nat.ble args.length 42 = true) (h : SemW Tryz.prog 42 (Tryz.f6.body.getD .skip) (retQ tbl [.tmp 0] R) (argEnv 0 args) w) : Cl Tryz.prog 6 args w R :=
  Cl.enter tblOk Tryz.call6 Tryz.func6 Tryz.ntmps6 rfl Tryz.results6 hlen h
abbrev f_wire_Reply : Nat := 7
theorem en_wire_Reply {args : List Value} {w : World} {R : Value → World → Prop} (hlen : Nat.ble args.length 32 = true) (h : SemW Tryz.prog 32 (Tryz.f7.body.getD .skip) (retQ tbl [.tmp 2, .tmp 3] R) (argEnv 0 args) w) : Cl Tryz.prog 7 args w R :=
  Cl.enter tblOk Tryz.call7 Tryz.func7 Tryz.ntmps7 rfl Tryz.results7 hlen h
abbrev f_tarmacref23_Reply : Nat := 8
theorem en_tarmacref23_Reply {args : List Value} {w : World} {R : Value → World → Prop} (hlen : Nat.ble args.length 70 = true) (h : SemW Tryz.prog 70 (Tryz.f8.body.getD .skip) (retQ tbl [.tmp 2, .tmp 3] R) (argEnv 0 args) w) : Cl Tryz.prog 8 args w R :=
  Cl.enter tblOk Tryz.call8 Tryz.func8 Tryz.ntmps8 rfl Tryz.results8 hlen h
abbrev f_wire_ReadReply : Nat := 9
theorem en_wire_ReadReply {args : List Value} {w : World} {R : Value → World → Prop} (hlen : Nat.ble args.length 57 = true) (h : SemW Tryz.prog 57 (Tryz.f9.body.getD .skip) (retQ tbl [.cell 2 32, .tmp 3] R) (argEnv 0 args) w) : Cl Tryz.prog 9 args w R :=
  Cl.enter tblOk Tryz.call9 Tryz.func9 Tryz.ntmps9 rfl Tryz.results9 hlen h
abbrev f_tarmacref23_ReadReply : Nat := 10
theorem en_tarmacref23_ReadReply {args : List Value} {w : World} {R : Value → World → Prop} (hlen : Nat.ble args.length 116 = true) (h : SemW Tryz.prog 116 (Tryz.f10.body.getD .skip) (retQ tbl [.cell 2 32, .tmp 3] R) (argEnv 0 args) w) : Cl Tryz.prog 10 args w R :=
  Cl.enter tblOk Tryz.call10 Tryz.func10 Tryz.ntmps10 rfl Tryz.results10 hlen h
abbrev f_tarmacref21_SameReply : Nat := 11
theorem en_tarmacref21_SameReply {args : List Value} {w : World} {R : Value → World → Prop} (hlen : Nat.ble args.length 66 = true) (h : SemW Tryz.prog 66 (Tryz.f11.body.getD .skip) (retQ tbl [.tmp 4] R) (argEnv 0 args) w) : Cl Tryz.prog 11 args w R :=
  Cl.enter tblOk Tryz.call11 Tryz.func11 Tryz.ntmps11 rfl Tryz.results11 hlen h
abbrev f_wire_Command : Nat := 19
theorem en_wire_Command {args : List Value} {w : World} {R : Value → World → Prop} (hlen : Nat.ble args.length 68 = true) (h : SemW Tryz.prog 68 (Tryz.f19.body.getD .skip) (retQ tbl [.tmp 2, .tmp 3] R) (argEnv 0 args) w) : Cl Tryz.prog 19 args w R :=
  Cl.enter tblOk Tryz.call19 Tryz.func19 Tryz.ntmps19 rfl Tryz.results19 hlen h
abbrev f_frame_Seal : Nat := 20
theorem en_frame_Seal {args : List Value} {w : World} {R : Value → World → Prop} (hlen : Nat.ble args.length 33 = true) (h : SemW Tryz.prog 33 (Tryz.f20.body.getD .skip) (retQ tbl [.tmp 2, .tmp 3] R) (argEnv 0 args) w) : Cl Tryz.prog 20 args w R :=
  Cl.enter tblOk Tryz.call20 Tryz.func20 Tryz.ntmps20 rfl Tryz.results20 hlen h
abbrev f_cabin_Label : Nat := 21
theorem en_cabin_Label {args : List Value} {w : World} {R : Value → World → Prop} (hlen : Nat.ble args.length 25 = true) (h : SemW Tryz.prog 25 (Tryz.f21.body.getD .skip) (retQ tbl [.tmp 2] R) (argEnv 0 args) w) : Cl Tryz.prog 21 args w R :=
  Cl.enter tblOk Tryz.call21 Tryz.func21 Tryz.ntmps21 rfl Tryz.results21 hlen h
abbrev f_pack_New : Nat := 22
theorem en_pack_New {args : List Value} {w : World} {R : Value → World → Prop} (hlen : Nat.ble args.length 3 = true) (h : SemW Tryz.prog 3 (Tryz.f22.body.getD .skip) (retQ tbl [.tmp 0] R) (argEnv 0 args) w) : Cl Tryz.prog 22 args w R :=
  Cl.enter tblOk Tryz.call22 Tryz.func22 Tryz.ntmps22 rfl Tryz.results22 hlen h
abbrev f_slices_Clone_int_int : Nat := 23
theorem en_slices_Clone_int_int {args : List Value} {w : World} {R : Value → World → Prop} (hlen : Nat.ble args.length 8 = true) (h : SemW Tryz.prog 8 (Tryz.f23.body.getD .skip) (retQ tbl [.tmp 2] R) (argEnv 0 args) w) : Cl Tryz.prog 23 args w R :=
  Cl.enter tblOk Tryz.call23 Tryz.func23 Tryz.ntmps23 rfl Tryz.results23 hlen h
abbrev f_wire_reply : Nat := 24
theorem en_wire_reply {args : List Value} {w : World} {R : Value → World → Prop} (hlen : Nat.ble args.length 151 = true) (h : SemW Tryz.prog 151 (Tryz.f24.body.getD .skip) (retQ tbl [] R) (argEnv 0 args) w) : Cl Tryz.prog 24 args w R :=
  Cl.enter tblOk Tryz.call24 Tryz.func24 Tryz.ntmps24 rfl Tryz.results24 hlen h
abbrev f_wire_writer_seal : Nat := 25
theorem en_wire_writer_seal {args : List Value} {w : World} {R : Value → World → Prop} (hlen : Nat.ble args.length 17 = true) (h : SemW Tryz.prog 17 (Tryz.f25.body.getD .skip) (retQ tbl [.tmp 2, .tmp 3] R) (argEnv 0 args) w) : Cl Tryz.prog 25 args w R :=
  Cl.enter tblOk Tryz.call25 Tryz.func25 Tryz.ntmps25 rfl Tryz.results25 hlen h
abbrev f_tarmacref13_Label : Nat := 26
theorem en_tarmacref13_Label {args : List Value} {w : World} {R : Value → World → Prop} (hlen : Nat.ble args.length 29 = true) (h : SemW Tryz.prog 29 (Tryz.f26.body.getD .skip) (retQ tbl [.tmp 2] R) (argEnv 0 args) w) : Cl Tryz.prog 26 args w R :=
  Cl.enter tblOk Tryz.call26 Tryz.func26 Tryz.ntmps26 rfl Tryz.results26 hlen h
abbrev f_tarmacref23_ints : Nat := 27
theorem en_tarmacref23_ints {args : List Value} {w : World} {R : Value → World → Prop} (hlen : Nat.ble args.length 19 = true) (h : SemW Tryz.prog 19 (Tryz.f27.body.getD .skip) (retQ tbl [.tmp 2] R) (argEnv 0 args) w) : Cl Tryz.prog 27 args w R :=
  Cl.enter tblOk Tryz.call27 Tryz.func27 Tryz.ntmps27 rfl Tryz.results27 hlen h
abbrev f_tarmacref01_Num : Nat := 28
theorem en_tarmacref01_Num {args : List Value} {w : World} {R : Value → World → Prop} (hlen : Nat.ble args.length 21 = true) (h : SemW Tryz.prog 21 (Tryz.f28.body.getD .skip) (retQ tbl [.tmp 2] R) (argEnv 0 args) w) : Cl Tryz.prog 28 args w R :=
  Cl.enter tblOk Tryz.call28 Tryz.func28 Tryz.ntmps28 rfl Tryz.results28 hlen h
abbrev f_tarmacref23_bit : Nat := 29
theorem en_tarmacref23_bit {args : List Value} {w : World} {R : Value → World → Prop} (hlen : Nat.ble args.length 7 = true) (h : SemW Tryz.prog 7 (Tryz.f29.body.getD .skip) (retQ tbl [.tmp 4] R) (argEnv 0 args) w) : Cl Tryz.prog 29 args w R :=
  Cl.enter tblOk Tryz.call29 Tryz.func29 Tryz.ntmps29 rfl Tryz.results29 hlen h
abbrev f_tarmacref22_Pax : Nat := 30
theorem en_tarmacref22_Pax {args : List Value} {w : World} {R : Value → World → Prop} (hlen : Nat.ble args.length 53 = true) (h : SemW Tryz.prog 53 (Tryz.f30.body.getD .skip) (retQ tbl [.tmp 2] R) (argEnv 0 args) w) : Cl Tryz.prog 30 args w R :=
  Cl.enter tblOk Tryz.call30 Tryz.func30 Tryz.ntmps30 rfl Tryz.results30 hlen h
abbrev f_tarmacref01_Text : Nat := 31
theorem en_tarmacref01_Text {args : List Value} {w : World} {R : Value → World → Prop} (hlen : Nat.ble args.length 9 = true) (h : SemW Tryz.prog 9 (Tryz.f31.body.getD .skip) (retQ tbl [.tmp 2] R) (argEnv 0 args) w) : Cl Tryz.prog 31 args w R :=
  Cl.enter tblOk Tryz.call31 Tryz.func31 Tryz.ntmps31 rfl Tryz.results31 hlen h
abbrev f_tarmacref23_one : Nat := 32
theorem en_tarmacref23_one {args : List Value} {w : World} {R : Value → World → Prop} (hlen : Nat.ble args.length 15 = true) (h : SemW Tryz.prog 15 (Tryz.f32.body.getD .skip) (retQ tbl [.tmp 2, .tmp 3] R) (argEnv 0 args) w) : Cl Tryz.prog 32 args w R :=
  Cl.enter tblOk Tryz.call32 Tryz.func32 Tryz.ntmps32 rfl Tryz.results32 hlen h
abbrev f_wire_open : Nat := 33
theorem en_wire_open {args : List Value} {w : World} {R : Value → World → Prop} (hlen : Nat.ble args.length 25 = true) (h : SemW Tryz.prog 25 (Tryz.f33.body.getD .skip) (retQ tbl [.tmp 2, .tmp 3] R) (argEnv 0 args) w) : Cl Tryz.prog 33 args w R :=
  Cl.enter tblOk Tryz.call33 Tryz.func33 Tryz.ntmps33 rfl Tryz.results33 hlen h
abbrev f_cabin_Parse : Nat := 34
theorem en_cabin_Parse {args : List Value} {w : World} {R : Value → World → Prop} (hlen : Nat.ble args.length 36 = true) (h : SemW Tryz.prog 36 (Tryz.f34.body.getD .skip) (retQ tbl [.cell 2 28, .tmp 3] R) (argEnv 0 args) w) : Cl Tryz.prog 34 args w R :=
  Cl.enter tblOk Tryz.call34 Tryz.func34 Tryz.ntmps34 rfl Tryz.results34 hlen h
abbrev f_pack_Reader_Done : Nat := 35
theorem en_pack_Reader_Done {args : List Value} {w : World} {R : Value → World → Prop} (hlen : Nat.ble args.length 8 = true) (h : SemW Tryz.prog 8 (Tryz.f35.body.getD .skip) (retQ tbl [.tmp 2] R) (argEnv 0 args) w) : Cl Tryz.prog 35 args w R :=
  Cl.enter tblOk Tryz.call35 Tryz.func35 Tryz.ntmps35 rfl Tryz.results35 hlen h
abbrev f_tarmacref23_payload : Nat := 36
theorem en_tarmacref23_payload {args : List Value} {w : World} {R : Value → World → Prop} (hlen : Nat.ble args.length 26 = true) (h : SemW Tryz.prog 26 (Tryz.f36.body.getD .skip) (retQ tbl [.tmp 2, .tmp 3] R) (argEnv 0 args) w) : Cl Tryz.prog 36 args w R :=
  Cl.enter tblOk Tryz.call36 Tryz.func36 Tryz.ntmps36 rfl Tryz.results36 hlen h
abbrev f_tarmacref23_in_int : Nat := 37
theorem en_tarmacref23_in_int {args : List Value} {w : World} {R : Value → World → Prop} (hlen : Nat.ble args.length 23 = true) (h : SemW Tryz.prog 23 (Tryz.f37.body.getD .skip) (retQ tbl [.tmp 2] R) (argEnv 0 args) w) : Cl Tryz.prog 37 args w R :=
  Cl.enter tblOk Tryz.call37 Tryz.func37 Tryz.ntmps37 rfl Tryz.results37 hlen h
abbrev f_tarmacref23_in_num : Nat := 38
theorem en_tarmacref23_in_num {args : List Value} {w : World} {R : Value → World → Prop} (hlen : Nat.ble args.length 23 = true) (h : SemW Tryz.prog 23 (Tryz.f38.body.getD .skip) (retQ tbl [.tmp 2] R) (argEnv 0 args) w) : Cl Tryz.prog 38 args w R :=
  Cl.enter tblOk Tryz.call38 Tryz.func38 Tryz.ntmps38 rfl Tryz.results38 hlen h
abbrev f_tarmacref22_ReadPax : Nat := 39
theorem en_tarmacref22_ReadPax {args : List Value} {w : World} {R : Value → World → Prop} (hlen : Nat.ble args.length 92 = true) (h : SemW Tryz.prog 92 (Tryz.f39.body.getD .skip) (retQ tbl [.cell 2 30, .tmp 3] R) (argEnv 0 args) w) : Cl Tryz.prog 39 args w R :=
  Cl.enter tblOk Tryz.call39 Tryz.func39 Tryz.ntmps39 rfl Tryz.results39 hlen h
abbrev f_tarmacref01_Reader_Text : Nat := 40
theorem en_tarmacref01_Reader_Text {args : List Value} {w : World} {R : Value → World → Prop} (hlen : Nat.ble args.length 49 = true) (h : SemW Tryz.prog 49 (Tryz.f40.body.getD .skip) (retQ tbl [.tmp 2, .tmp 3] R) (argEnv 0 args) w) : Cl Tryz.prog 40 args w R :=
  Cl.enter tblOk Tryz.call40 Tryz.func40 Tryz.ntmps40 rfl Tryz.results40 hlen h
abbrev f_wire_small : Nat := 55
theorem en_wire_small {args : List Value} {w : World} {R : Value → World → Prop} (hlen : Nat.ble args.length 19 = true) (h : SemW Tryz.prog 19 (Tryz.f55.body.getD .skip) (retQ tbl [.tmp 2] R) (argEnv 0 args) w) : Cl Tryz.prog 55 args w R :=
  Cl.enter tblOk Tryz.call55 Tryz.func55 Tryz.ntmps55 rfl Tryz.results55 hlen h
abbrev f_pack_Writer_Num : Nat := 56
theorem en_pack_Writer_Num {args : List Value} {w : World} {R : Value → World → Prop} (hlen : Nat.ble args.length 28 = true) (h : SemW Tryz.prog 28 (Tryz.f56.body.getD .skip) (retQ tbl [] R) (argEnv 0 args) w) : Cl Tryz.prog 56 args w R :=
  Cl.enter tblOk Tryz.call56 Tryz.func56 Tryz.ntmps56 rfl Tryz.results56 hlen h
abbrev f_pack_Writer_Int : Nat := 57
theorem en_pack_Writer_Int {args : List Value} {w : World} {R : Value → World → Prop} (hlen : Nat.ble args.length 23 = true) (h : SemW Tryz.prog 23 (Tryz.f57.body.getD .skip) (retQ tbl [] R) (argEnv 0 args) w) : Cl Tryz.prog 57 args w R :=
  Cl.enter tblOk Tryz.call57 Tryz.func57 Tryz.ntmps57 rfl Tryz.results57 hlen h
abbrev f_slices_Clone_api_Row_api_Row : Nat := 58
theorem en_slices_Clone_api_Row_api_Row {args : List Value} {w : World} {R : Value → World → Prop} (hlen : Nat.ble args.length 8 = true) (h : SemW Tryz.prog 8 (Tryz.f58.body.getD .skip) (retQ tbl [.tmp 2] R) (argEnv 0 args) w) : Cl Tryz.prog 58 args w R :=
  Cl.enter tblOk Tryz.call58 Tryz.func58 Tryz.ntmps58 rfl Tryz.results58 hlen h
abbrev f_wire_command : Nat := 59
theorem en_wire_command {args : List Value} {w : World} {R : Value → World → Prop} (hlen : Nat.ble args.length 234 = true) (h : SemW Tryz.prog 234 (Tryz.f59.body.getD .skip) (retQ tbl [] R) (argEnv 0 args) w) : Cl Tryz.prog 59 args w R :=
  Cl.enter tblOk Tryz.call59 Tryz.func59 Tryz.ntmps59 rfl Tryz.results59 hlen h
abbrev f_wire_ReadCommand : Nat := 60
theorem en_wire_ReadCommand {args : List Value} {w : World} {R : Value → World → Prop} (hlen : Nat.ble args.length 56 = true) (h : SemW Tryz.prog 56 (Tryz.f60.body.getD .skip) (retQ tbl [.cell 2 62, .tmp 3] R) (argEnv 0 args) w) : Cl Tryz.prog 60 args w R :=
  Cl.enter tblOk Tryz.call60 Tryz.func60 Tryz.ntmps60 rfl Tryz.results60 hlen h
abbrev f_wire_same : Nat := 61
theorem en_wire_same {args : List Value} {w : World} {R : Value → World → Prop} (hlen : Nat.ble args.length 93 = true) (h : SemW Tryz.prog 93 (Tryz.f61.body.getD .skip) (retQ tbl [.tmp 4] R) (argEnv 0 args) w) : Cl Tryz.prog 61 args w R :=
  Cl.enter tblOk Tryz.call61 Tryz.func61 Tryz.ntmps61 rfl Tryz.results61 hlen h
abbrev f_frame_four : Nat := 62
theorem en_frame_four {args : List Value} {w : World} {R : Value → World → Prop} (hlen : Nat.ble args.length 16 = true) (h : SemW Tryz.prog 16 (Tryz.f62.body.getD .skip) (retQ tbl [.tmp 2] R) (argEnv 0 args) w) : Cl Tryz.prog 62 args w R :=
  Cl.enter tblOk Tryz.call62 Tryz.func62 Tryz.ntmps62 rfl Tryz.results62 hlen h
abbrev f_strings_Builder_WriteString : Nat := 63
theorem en_strings_Builder_WriteString {args : List Value} {w : World} {R : Value → World → Prop} (hlen : Nat.ble args.length 19 = true) (h : SemW Tryz.prog 19 (Tryz.f63.body.getD .skip) (retQ tbl [.tmp 4, .tmp 5] R) (argEnv 0 args) w) : Cl Tryz.prog 63 args w R :=
  Cl.enter tblOk Tryz.call63 Tryz.func63 Tryz.ntmps63 rfl Tryz.results63 hlen h
abbrev f_frame_Sum : Nat := 64
theorem en_frame_Sum {args : List Value} {w : World} {R : Value → World → Prop} (hlen : Nat.ble args.length 38 = true) (h : SemW Tryz.prog 38 (Tryz.f64.body.getD .skip) (retQ tbl [.tmp 2] R) (argEnv 0 args) w) : Cl Tryz.prog 64 args w R :=
  Cl.enter tblOk Tryz.call64 Tryz.func64 Tryz.ntmps64 rfl Tryz.results64 hlen h
abbrev f_strings_Builder_String : Nat := 65
theorem en_strings_Builder_String {args : List Value} {w : World} {R : Value → World → Prop} (hlen : Nat.ble args.length 14 = true) (h : SemW Tryz.prog 14 (Tryz.f65.body.getD .skip) (retQ tbl [.tmp 2] R) (argEnv 0 args) w) : Cl Tryz.prog 65 args w R :=
  Cl.enter tblOk Tryz.call65 Tryz.func65 Tryz.ntmps65 rfl Tryz.results65 hlen h
abbrev f_cabin_between : Nat := 66
theorem en_cabin_between {args : List Value} {w : World} {R : Value → World → Prop} (hlen : Nat.ble args.length 15 = true) (h : SemW Tryz.prog 15 (Tryz.f66.body.getD .skip) (retQ tbl [.tmp 6] R) (argEnv 0 args) w) : Cl Tryz.prog 66 args w R :=
  Cl.enter tblOk Tryz.call66 Tryz.func66 Tryz.ntmps66 rfl Tryz.results66 hlen h
abbrev f_strconv_Itoa : Nat := 67
theorem en_strconv_Itoa {args : List Value} {w : World} {R : Value → World → Prop} (hlen : Nat.ble args.length 5 = true) (h : SemW Tryz.prog 5 (Tryz.f67.body.getD .skip) (retQ tbl [.tmp 2] R) (argEnv 0 args) w) : Cl Tryz.prog 67 args w R :=
  Cl.enter tblOk Tryz.call67 Tryz.func67 Tryz.ntmps67 rfl Tryz.results67 hlen h
abbrev f_pack_Writer_Bytes : Nat := 68
theorem en_pack_Writer_Bytes {args : List Value} {w : World} {R : Value → World → Prop} (hlen : Nat.ble args.length 8 = true) (h : SemW Tryz.prog 8 (Tryz.f68.body.getD .skip) (retQ tbl [.tmp 2] R) (argEnv 0 args) w) : Cl Tryz.prog 68 args w R :=
  Cl.enter tblOk Tryz.call68 Tryz.func68 Tryz.ntmps68 rfl Tryz.results68 hlen h
abbrev f_tarmacref01_Int : Nat := 69
theorem en_tarmacref01_Int {args : List Value} {w : World} {R : Value → World → Prop} (hlen : Nat.ble args.length 6 = true) (h : SemW Tryz.prog 6 (Tryz.f69.body.getD .skip) (retQ tbl [.tmp 2] R) (argEnv 0 args) w) : Cl Tryz.prog 69 args w R :=
  Cl.enter tblOk Tryz.call69 Tryz.func69 Tryz.ntmps69 rfl Tryz.results69 hlen h
abbrev f_tarmacref22_bit : Nat := 70
theorem en_tarmacref22_bit {args : List Value} {w : World} {R : Value → World → Prop} (hlen : Nat.ble args.length 7 = true) (h : SemW Tryz.prog 7 (Tryz.f70.body.getD .skip) (retQ tbl [.tmp 4] R) (argEnv 0 args) w) : Cl Tryz.prog 70 args w R :=
  Cl.enter tblOk Tryz.call70 Tryz.func70 Tryz.ntmps70 rfl Tryz.results70 hlen h
abbrev f_tarmacref22_label : Nat := 71
theorem en_tarmacref22_label {args : List Value} {w : World} {R : Value → World → Prop} (hlen : Nat.ble args.length 8 = true) (h : SemW Tryz.prog 8 (Tryz.f71.body.getD .skip) (retQ tbl [.tmp 2] R) (argEnv 0 args) w) : Cl Tryz.prog 71 args w R :=
  Cl.enter tblOk Tryz.call71 Tryz.func71 Tryz.ntmps71 rfl Tryz.results71 hlen h
abbrev f_tarmacref02_Seal : Nat := 72
theorem en_tarmacref02_Seal {args : List Value} {w : World} {R : Value → World → Prop} (hlen : Nat.ble args.length 23 = true) (h : SemW Tryz.prog 23 (Tryz.f72.body.getD .skip) (retQ tbl [.tmp 2, .tmp 3] R) (argEnv 0 args) w) : Cl Tryz.prog 72 args w R :=
  Cl.enter tblOk Tryz.call72 Tryz.func72 Tryz.ntmps72 rfl Tryz.results72 hlen h
abbrev f_frame_First : Nat := 73
theorem en_frame_First {args : List Value} {w : World} {R : Value → World → Prop} (hlen : Nat.ble args.length 54 = true) (h : SemW Tryz.prog 54 (Tryz.f73.body.getD .skip) (retQ tbl [.tmp 4, .tmp 5, .tmp 6] R) (argEnv 0 args) w) : Cl Tryz.prog 73 args w R :=
  Cl.enter tblOk Tryz.call73 Tryz.func73 Tryz.ntmps73 rfl Tryz.results73 hlen h
abbrev f_pack_Read : Nat := 74
theorem en_pack_Read {args : List Value} {w : World} {R : Value → World → Prop} (hlen : Nat.ble args.length 6 = true) (h : SemW Tryz.prog 6 (Tryz.f74.body.getD .skip) (retQ tbl [.tmp 2] R) (argEnv 0 args) w) : Cl Tryz.prog 74 args w R :=
  Cl.enter tblOk Tryz.call74 Tryz.func74 Tryz.ntmps74 rfl Tryz.results74 hlen h
abbrev f_strconv_Atoi : Nat := 75
abbrev f_tarmacref02_First : Nat := 76
theorem en_tarmacref02_First {args : List Value} {w : World} {R : Value → World → Prop} (hlen : Nat.ble args.length 72 = true) (h : SemW Tryz.prog 72 (Tryz.f76.body.getD .skip) (retQ tbl [.tmp 4, .tmp 5, .tmp 6] R) (argEnv 0 args) w) : Cl Tryz.prog 76 args w R :=
  Cl.enter tblOk Tryz.call76 Tryz.func76 Tryz.ntmps76 rfl Tryz.results76 hlen h
abbrev f_tarmacref01_Reader_Int : Nat := 77
theorem en_tarmacref01_Reader_Int {args : List Value} {w : World} {R : Value → World → Prop} (hlen : Nat.ble args.length 16 = true) (h : SemW Tryz.prog 16 (Tryz.f77.body.getD .skip) (retQ tbl [.tmp 2, .tmp 3] R) (argEnv 0 args) w) : Cl Tryz.prog 77 args w R :=
  Cl.enter tblOk Tryz.call77 Tryz.func77 Tryz.ntmps77 rfl Tryz.results77 hlen h
abbrev f_tarmacref01_Reader_Num : Nat := 78
theorem en_tarmacref01_Reader_Num {args : List Value} {w : World} {R : Value → World → Prop} (hlen : Nat.ble args.length 81 = true) (h : SemW Tryz.prog 81 (Tryz.f78.body.getD .skip) (retQ tbl [.tmp 2, .tmp 3] R) (argEnv 0 args) w) : Cl Tryz.prog 78 args w R :=
  Cl.enter tblOk Tryz.call78 Tryz.func78 Tryz.ntmps78 rfl Tryz.results78 hlen h
abbrev f_tarmacref13_Parse : Nat := 79
theorem en_tarmacref13_Parse {args : List Value} {w : World} {R : Value → World → Prop} (hlen : Nat.ble args.length 33 = true) (h : SemW Tryz.prog 33 (Tryz.f79.body.getD .skip) (retQ tbl [.cell 2 28, .tmp 3] R) (argEnv 0 args) w) : Cl Tryz.prog 79 args w R :=
  Cl.enter tblOk Tryz.call79 Tryz.func79 Tryz.ntmps79 rfl Tryz.results79 hlen h
abbrev f_tarmacref22_Rows : Nat := 95
theorem en_tarmacref22_Rows {args : List Value} {w : World} {R : Value → World → Prop} (hlen : Nat.ble args.length 46 = true) (h : SemW Tryz.prog 46 (Tryz.f95.body.getD .skip) (retQ tbl [.tmp 2] R) (argEnv 0 args) w) : Cl Tryz.prog 95 args w R :=
  Cl.enter tblOk Tryz.call95 Tryz.func95 Tryz.ntmps95 rfl Tryz.results95 hlen h
abbrev f_tarmacref22_flight : Nat := 96
theorem en_tarmacref22_flight {args : List Value} {w : World} {R : Value → World → Prop} (hlen : Nat.ble args.length 28 = true) (h : SemW Tryz.prog 28 (Tryz.f96.body.getD .skip) (retQ tbl [.tmp 2] R) (argEnv 0 args) w) : Cl Tryz.prog 96 args w R :=
  Cl.enter tblOk Tryz.call96 Tryz.func96 Tryz.ntmps96 rfl Tryz.results96 hlen h
abbrev f_pack_Writer_Text : Nat := 101
theorem en_pack_Writer_Text {args : List Value} {w : World} {R : Value → World → Prop} (hlen : Nat.ble args.length 23 = true) (h : SemW Tryz.prog 23 (Tryz.f101.body.getD .skip) (retQ tbl [] R) (argEnv 0 args) w) : Cl Tryz.prog 101 args w R :=
  Cl.enter tblOk Tryz.call101 Tryz.func101 Tryz.ntmps101 rfl Tryz.results101 hlen h
abbrev f_slices_ContainsFunc_api_Row_api_Row : Nat := 102
theorem en_slices_ContainsFunc_api_Row_api_Row {args : List Value} {w : World} {R : Value → World → Prop} (hlen : Nat.ble args.length 9 = true) (h : SemW Tryz.prog 9 (Tryz.f102.body.getD .skip) (retQ tbl [.tmp 4] R) (argEnv 0 args) w) : Cl Tryz.prog 102 args w R :=
  Cl.enter tblOk Tryz.call102 Tryz.func102 Tryz.ntmps102 rfl Tryz.results102 hlen h
abbrev f_wire_small_1 : Nat := 103
theorem en_wire_small_1 {args : List Value} {w : World} {R : Value → World → Prop} (hlen : Nat.ble args.length 7 = true) (h : SemW Tryz.prog 7 (Tryz.f103.body.getD .skip) (retQ tbl [.tmp 2] R) (argEnv 0 args) w) : Cl Tryz.prog 103 args w R :=
  Cl.enter tblOk Tryz.call103 Tryz.func103 Tryz.ntmps103 rfl Tryz.results103 hlen h
abbrev f_pack_Writer_add : Nat := 104
theorem en_pack_Writer_add {args : List Value} {w : World} {R : Value → World → Prop} (hlen : Nat.ble args.length 24 = true) (h : SemW Tryz.prog 24 (Tryz.f104.body.getD .skip) (retQ tbl [] R) (argEnv 0 args) w) : Cl Tryz.prog 104 args w R :=
  Cl.enter tblOk Tryz.call104 Tryz.func104 Tryz.ntmps104 rfl Tryz.results104 hlen h
abbrev f_wire_reader_num : Nat := 105
theorem en_wire_reader_num {args : List Value} {w : World} {R : Value → World → Prop} (hlen : Nat.ble args.length 26 = true) (h : SemW Tryz.prog 26 (Tryz.f105.body.getD .skip) (retQ tbl [.tmp 4] R) (argEnv 0 args) w) : Cl Tryz.prog 105 args w R :=
  Cl.enter tblOk Tryz.call105 Tryz.func105 Tryz.ntmps105 rfl Tryz.results105 hlen h
abbrev f_wire_reader_int : Nat := 106
theorem en_wire_reader_int {args : List Value} {w : World} {R : Value → World → Prop} (hlen : Nat.ble args.length 37 = true) (h : SemW Tryz.prog 37 (Tryz.f106.body.getD .skip) (retQ tbl [] R) (argEnv 0 args) w) : Cl Tryz.prog 106 args w R :=
  Cl.enter tblOk Tryz.call106 Tryz.func106 Tryz.ntmps106 rfl Tryz.results106 hlen h
abbrev f_slices_Equal_api_Row_api_Row : Nat := 107
theorem en_slices_Equal_api_Row_api_Row {args : List Value} {w : World} {R : Value → World → Prop} (hlen : Nat.ble args.length 26 = true) (h : SemW Tryz.prog 26 (Tryz.f107.body.getD .skip) (retQ tbl [.tmp 4] R) (argEnv 0 args) w) : Cl Tryz.prog 107 args w R :=
  Cl.enter tblOk Tryz.call107 Tryz.func107 Tryz.ntmps107 rfl Tryz.results107 hlen h
abbrev f_strings_Builder_copyCheck : Nat := 108
theorem en_strings_Builder_copyCheck {args : List Value} {w : World} {R : Value → World → Prop} (hlen : Nat.ble args.length 20 = true) (h : SemW Tryz.prog 20 (Tryz.f108.body.getD .skip) (retQ tbl [] R) (argEnv 0 args) w) : Cl Tryz.prog 108 args w R :=
  Cl.enter tblOk Tryz.call108 Tryz.func108 Tryz.ntmps108 rfl Tryz.results108 hlen h
theorem en_internal_strconv_Itoa {args : List Value} {w : World} {R : Value → World → Prop} (hlen : Nat.ble args.length 5 = true) (h : SemW Tryz.prog 5 (Tryz.f109.body.getD .skip) (retQ tbl [.tmp 2] R) (argEnv 0 args) w) : Cl Tryz.prog 109 args w R :=
  Cl.enter tblOk Tryz.call109 Tryz.func109 Tryz.ntmps109 rfl Tryz.results109 hlen h
abbrev f_tarmacref01_Fold : Nat := 110
theorem en_tarmacref01_Fold {args : List Value} {w : World} {R : Value → World → Prop} (hlen : Nat.ble args.length 14 = true) (h : SemW Tryz.prog 14 (Tryz.f110.body.getD .skip) (retQ tbl [.tmp 2] R) (argEnv 0 args) w) : Cl Tryz.prog 110 args w R :=
  Cl.enter tblOk Tryz.call110 Tryz.func110 Tryz.ntmps110 rfl Tryz.results110 hlen h
abbrev f_tarmacref02_Frame : Nat := 111
theorem en_tarmacref02_Frame {args : List Value} {w : World} {R : Value → World → Prop} (hlen : Nat.ble args.length 17 = true) (h : SemW Tryz.prog 17 (Tryz.f111.body.getD .skip) (retQ tbl [.tmp 2] R) (argEnv 0 args) w) : Cl Tryz.prog 111 args w R :=
  Cl.enter tblOk Tryz.call111 Tryz.func111 Tryz.ntmps111 rfl Tryz.results111 hlen h
abbrev f_frame_number : Nat := 112
theorem en_frame_number {args : List Value} {w : World} {R : Value → World → Prop} (hlen : Nat.ble args.length 21 = true) (h : SemW Tryz.prog 21 (Tryz.f112.body.getD .skip) (retQ tbl [.tmp 2] R) (argEnv 0 args) w) : Cl Tryz.prog 112 args w R :=
  Cl.enter tblOk Tryz.call112 Tryz.func112 Tryz.ntmps112 rfl Tryz.results112 hlen h
abbrev f_tarmacref01_Unfold : Nat := 115
theorem en_tarmacref01_Unfold {args : List Value} {w : World} {R : Value → World → Prop} (hlen : Nat.ble args.length 14 = true) (h : SemW Tryz.prog 14 (Tryz.f115.body.getD .skip) (retQ tbl [.tmp 2] R) (argEnv 0 args) w) : Cl Tryz.prog 115 args w R :=
  Cl.enter tblOk Tryz.call115 Tryz.func115 Tryz.ntmps115 rfl Tryz.results115 hlen h
abbrev f_slices_IndexFunc_api_Row_api_Row : Nat := 129
theorem en_slices_IndexFunc_api_Row_api_Row {args : List Value} {w : World} {R : Value → World → Prop} (hlen : Nat.ble args.length 19 = true) (h : SemW Tryz.prog 19 (Tryz.f129.body.getD .skip) (retQ tbl [.tmp 4] R) (argEnv 0 args) w) : Cl Tryz.prog 129 args w R :=
  Cl.enter tblOk Tryz.call129 Tryz.func129 Tryz.ntmps129 rfl Tryz.results129 hlen h
abbrev f_pack_Reader_Num : Nat := 130
theorem en_pack_Reader_Num {args : List Value} {w : World} {R : Value → World → Prop} (hlen : Nat.ble args.length 59 = true) (h : SemW Tryz.prog 59 (Tryz.f130.body.getD .skip) (retQ tbl [.tmp 2, .tmp 3] R) (argEnv 0 args) w) : Cl Tryz.prog 130 args w R :=
  Cl.enter tblOk Tryz.call130 Tryz.func130 Tryz.ntmps130 rfl Tryz.results130 hlen h
abbrev f_pack_Reader_Int : Nat := 131
theorem en_pack_Reader_Int {args : List Value} {w : World} {R : Value → World → Prop} (hlen : Nat.ble args.length 20 = true) (h : SemW Tryz.prog 20 (Tryz.f131.body.getD .skip) (retQ tbl [.tmp 2, .tmp 3] R) (argEnv 0 args) w) : Cl Tryz.prog 131 args w R :=
  Cl.enter tblOk Tryz.call131 Tryz.func131 Tryz.ntmps131 rfl Tryz.results131 hlen h
abbrev f_internal_abi_NoEscape : Nat := 132
theorem func_internal_abi_NoEscape : Tryz.prog.funcs[132]? = some Tryz.f132 := Tryz.func132
theorem en_internal_strconv_FormatInt {args : List Value} {w : World} {R : Value → World → Prop} (hlen : Nat.ble args.length 54 = true) (h : SemW Tryz.prog 54 (Tryz.f133.body.getD .skip) (retQ tbl [.tmp 4] R) (argEnv 0 args) w) : Cl Tryz.prog 133 args w R :=
  Cl.enter tblOk Tryz.call133 Tryz.func133 Tryz.ntmps133 rfl Tryz.results133 hlen h
abbrev f_tarmacref02_four : Nat := 134
theorem en_tarmacref02_four {args : List Value} {w : World} {R : Value → World → Prop} (hlen : Nat.ble args.length 19 = true) (h : SemW Tryz.prog 19 (Tryz.f134.body.getD .skip) (retQ tbl [.tmp 2] R) (argEnv 0 args) w) : Cl Tryz.prog 134 args w R :=
  Cl.enter tblOk Tryz.call134 Tryz.func134 Tryz.ntmps134 rfl Tryz.results134 hlen h
abbrev f_tarmacref02_Sum : Nat := 135
theorem en_tarmacref02_Sum {args : List Value} {w : World} {R : Value → World → Prop} (hlen : Nat.ble args.length 33 = true) (h : SemW Tryz.prog 33 (Tryz.f135.body.getD .skip) (retQ tbl [.tmp 2] R) (argEnv 0 args) w) : Cl Tryz.prog 135 args w R :=
  Cl.enter tblOk Tryz.call135 Tryz.func135 Tryz.ntmps135 rfl Tryz.results135 hlen h
abbrev f_pack_Reader_Text : Nat := 142
theorem en_pack_Reader_Text {args : List Value} {w : World} {R : Value → World → Prop} (hlen : Nat.ble args.length 49 = true) (h : SemW Tryz.prog 49 (Tryz.f142.body.getD .skip) (retQ tbl [.tmp 2, .tmp 3] R) (argEnv 0 args) w) : Cl Tryz.prog 142 args w R :=
  Cl.enter tblOk Tryz.call142 Tryz.func142 Tryz.ntmps142 rfl Tryz.results142 hlen h
abbrev f_internal_strconv_small : Nat := 146
theorem en_internal_strconv_small {args : List Value} {w : World} {R : Value → World → Prop} (hlen : Nat.ble args.length 15 = true) (h : SemW Tryz.prog 15 (Tryz.f146.body.getD .skip) (retQ tbl [.tmp 2] R) (argEnv 0 args) w) : Cl Tryz.prog 146 args w R :=
  Cl.enter tblOk Tryz.call146 Tryz.func146 Tryz.ntmps146 rfl Tryz.results146 hlen h
abbrev f_wire_writer_count : Nat := 195
theorem en_wire_writer_count {args : List Value} {w : World} {R : Value → World → Prop} (hlen : Nat.ble args.length 12 = true) (h : SemW Tryz.prog 12 (Tryz.f195.body.getD .skip) (retQ tbl [.tmp 4] R) (argEnv 0 args) w) : Cl Tryz.prog 195 args w R :=
  Cl.enter tblOk Tryz.call195 Tryz.func195 Tryz.ntmps195 rfl Tryz.results195 hlen h
abbrev f_wire_writer_int : Nat := 196
theorem en_wire_writer_int {args : List Value} {w : World} {R : Value → World → Prop} (hlen : Nat.ble args.length 20 = true) (h : SemW Tryz.prog 20 (Tryz.f196.body.getD .skip) (retQ tbl [] R) (argEnv 0 args) w) : Cl Tryz.prog 196 args w R :=
  Cl.enter tblOk Tryz.call196 Tryz.func196 Tryz.ntmps196 rfl Tryz.results196 hlen h
abbrev f_wire_writer_letter : Nat := 197
theorem en_wire_writer_letter {args : List Value} {w : World} {R : Value → World → Prop} (hlen : Nat.ble args.length 12 = true) (h : SemW Tryz.prog 12 (Tryz.f197.body.getD .skip) (retQ tbl [] R) (argEnv 0 args) w) : Cl Tryz.prog 197 args w R :=
  Cl.enter tblOk Tryz.call197 Tryz.func197 Tryz.ntmps197 rfl Tryz.results197 hlen h
abbrev f_wire_writer_marks : Nat := 198
theorem en_wire_writer_marks {args : List Value} {w : World} {R : Value → World → Prop} (hlen : Nat.ble args.length 28 = true) (h : SemW Tryz.prog 28 (Tryz.f198.body.getD .skip) (retQ tbl [] R) (argEnv 0 args) w) : Cl Tryz.prog 198 args w R :=
  Cl.enter tblOk Tryz.call198 Tryz.func198 Tryz.ntmps198 rfl Tryz.results198 hlen h
abbrev f_wire_writer_text : Nat := 199
theorem en_wire_writer_text {args : List Value} {w : World} {R : Value → World → Prop} (hlen : Nat.ble args.length 11 = true) (h : SemW Tryz.prog 11 (Tryz.f199.body.getD .skip) (retQ tbl [] R) (argEnv 0 args) w) : Cl Tryz.prog 199 args w R :=
  Cl.enter tblOk Tryz.call199 Tryz.func199 Tryz.ntmps199 rfl Tryz.results199 hlen h
abbrev f_wire_reader_count : Nat := 200
theorem en_wire_reader_count {args : List Value} {w : World} {R : Value → World → Prop} (hlen : Nat.ble args.length 14 = true) (h : SemW Tryz.prog 14 (Tryz.f200.body.getD .skip) (retQ tbl [.tmp 4] R) (argEnv 0 args) w) : Cl Tryz.prog 200 args w R :=
  Cl.enter tblOk Tryz.call200 Tryz.func200 Tryz.ntmps200 rfl Tryz.results200 hlen h
abbrev f_wire_reader_letter : Nat := 201
theorem en_wire_reader_letter {args : List Value} {w : World} {R : Value → World → Prop} (hlen : Nat.ble args.length 9 = true) (h : SemW Tryz.prog 9 (Tryz.f201.body.getD .skip) (retQ tbl [] R) (argEnv 0 args) w) : Cl Tryz.prog 201 args w R :=
  Cl.enter tblOk Tryz.call201 Tryz.func201 Tryz.ntmps201 rfl Tryz.results201 hlen h
abbrev f_wire_reader_marks : Nat := 202
theorem en_wire_reader_marks {args : List Value} {w : World} {R : Value → World → Prop} (hlen : Nat.ble args.length 30 = true) (h : SemW Tryz.prog 30 (Tryz.f202.body.getD .skip) (retQ tbl [] R) (argEnv 0 args) w) : Cl Tryz.prog 202 args w R :=
  Cl.enter tblOk Tryz.call202 Tryz.func202 Tryz.ntmps202 rfl Tryz.results202 hlen h
abbrev f_wire_reader_text : Nat := 203
theorem en_wire_reader_text {args : List Value} {w : World} {R : Value → World → Prop} (hlen : Nat.ble args.length 28 = true) (h : SemW Tryz.prog 28 (Tryz.f203.body.getD .skip) (retQ tbl [] R) (argEnv 0 args) w) : Cl Tryz.prog 203 args w R :=
  Cl.enter tblOk Tryz.call203 Tryz.func203 Tryz.ntmps203 rfl Tryz.results203 hlen h
abbrev f_pack_Reader_Left : Nat := 204
theorem en_pack_Reader_Left {args : List Value} {w : World} {R : Value → World → Prop} (hlen : Nat.ble args.length 8 = true) (h : SemW Tryz.prog 8 (Tryz.f204.body.getD .skip) (retQ tbl [.tmp 2] R) (argEnv 0 args) w) : Cl Tryz.prog 204 args w R :=
  Cl.enter tblOk Tryz.call204 Tryz.func204 Tryz.ntmps204 rfl Tryz.results204 hlen h
end Go.Proofs.YthpmmfapolcaiaaGreatDoor

/- Conversions between byte slices and strings; integers of unsigned kinds as natural numbers. -/
namespace Go.Eng
open Go
section
variable {P : Program} {T0 : Tbl}

theorem foldl_push_bytes : ∀ (l : List UInt8) (r : ByteArray), (l.map (fun b => (b.toNat : Int))).foldl (fun r n => r.push (UInt8.ofNat n.toNat)) r = ⟨r.data ++ l.toArray⟩
  | [], r => by simp
  | b :: l, r => by
    simp only [List.map_cons, List.foldl_cons, foldl_push_bytes l]
    apply ByteArray.ext
    simp

/-- string(b): the slice's bytes, in every world of C. -/
theorem toStr (hT : TOk P T0) {s d e : TypeId} {i ie id : TI} (hi : tf T0 s = some i) (hk : i.k = .slice e 1) (hie : tf T0 e = some ie) (hke : ie.k = .int .u8) (hid : tf T0 d = some id) (hkd : id.k = .str)
    {C : World → Prop} {T : List Nat} {a : Option Addr} {bs : List UInt8} {n cap : Nat} (hn : bs.length = n) (ha : ∀ w, C w → Arr w T a (bs.map byteV)) {K : Value → Prop} (hK : K (Str bs)) :
    RdG P (convert s d (.slice a n cap)) C K := by
  refine ⟨⟨_, fun w hw => ?_, hK⟩⟩
  have hs := und_of hT hi; rw [hk] at hs
  have he := und_of hT hie; rw [hke] at he
  have hd := und_of hT hid; rw [hkd] at hd
  rw [run_convert_bytes_string w s d e a n cap hs.1 he hd]
  cases a with
  | none =>
    cases bs with
    | nil => rfl
    | cons b bs => obtain ⟨_, _, h, _⟩ := ha w hw 0 (byteV b) rfl; cases h
  | some a =>
    have h1 := run_loadCells_list (P := P) (w := w) a ((bs.map fun b => (b.toNat : Int)).map (Value.int .u8)) (fun j v hj => by
      have hj' : (bs.map byteV)[j]? = some v := by simpa [byteV, List.getElem?_map, Function.comp] using hj
      obtain ⟨bk, off, h1, _, h3⟩ := ha w hw j v hj'
      cases h1
      rw [Addr.add_eq]; exact h3)
    rw [run_bytesToString (P := P) w a n cap (bs.map fun b => (b.toNat : Int)) (by simpa [hn] using h1)]
    congr 2
    rw [foldl_push_bytes]
    simp
end

/-! ### Unsigned integers -/
theorem wrapU (k : IntKind) (hs : k.signed = false) (n : Nat) : k.wrap (n : Int) = ((n % 2 ^ k.bits : Nat) : Int) := by
  unfold IntKind.wrap; simp only [hs]; simp
theorem u8wrap (n : Nat) : IntKind.u8.wrap (n : Int) = ((UInt8.ofNat n).toNat : Int) := by
  rw [wrapU .u8 rfl]; simp [UInt8.toNat_ofNat']; rfl
theorem fdivU (n k : Nat) : (n : Int).fdiv (k : Int) = ((n / k : Nat) : Int) := by
  rw [← Int.ofNat_fdiv]
theorem fdivP (n k : Nat) : (n : Int).fdiv (2 ^ k) = ((n / 2 ^ k : Nat) : Int) := by
  have : ((2 : Int) ^ k) = ((2 ^ k : Nat) : Int) := by simp
  rw [this, fdivU]
theorem orU (k : IntKind) (hs : k.signed = false) (x y : Nat) (hx : x < 2 ^ k.bits) (hy : y < 2 ^ k.bits) : orI k x y = ((x ||| y : Nat) : Int) := by
  unfold orI
  rw [BitVec.toNat_or, BitVec.ofInt_natCast, BitVec.ofInt_natCast, BitVec.toNat_ofNat, BitVec.toNat_ofNat, Nat.mod_eq_of_lt hx, Nat.mod_eq_of_lt hy, wrapU k hs, Nat.mod_eq_of_lt (Nat.or_lt_two_pow hx hy)]
theorem andU (k : IntKind) (hs : k.signed = false) (x y : Nat) (hx : x < 2 ^ k.bits) (hy : y < 2 ^ k.bits) : andI k x y = ((x &&& y : Nat) : Int) := by
  unfold andI
  rw [BitVec.toNat_and, BitVec.ofInt_natCast, BitVec.ofInt_natCast, BitVec.toNat_ofNat, BitVec.toNat_ofNat, Nat.mod_eq_of_lt hx, Nat.mod_eq_of_lt hy, wrapU k hs, Nat.mod_eq_of_lt (Nat.and_lt_two_pow _ hy)]
theorem xorU (k : IntKind) (hs : k.signed = false) (x y : Nat) (hx : x < 2 ^ k.bits) (hy : y < 2 ^ k.bits) : xorI k x y = ((x ^^^ y : Nat) : Int) := by
  unfold xorI
  rw [BitVec.toNat_xor, BitVec.ofInt_natCast, BitVec.ofInt_natCast, BitVec.toNat_ofNat, BitVec.toNat_ofNat, Nat.mod_eq_of_lt hx, Nat.mod_eq_of_lt hy, wrapU k hs, Nat.mod_eq_of_lt (Nat.xor_lt_two_pow hx hy)]
theorem or_add (a b k : Nat) (hb : b < 2 ^ k) : (a * 2 ^ k) ||| b = a * 2 ^ k + b := by
  rw [← Nat.shiftLeft_eq, Nat.shiftLeft_add_eq_or_of_lt hb]
end Go.Eng

/- Package pack: the writer. -/
namespace Go.Proofs.YthpmmfapolcaiaaGreatDoor
open Go Go.Eng Go.Proofs

/-- []byte(s): a block of the call's own. -/
theorem St.toBytes {P : Program} {T0 : Tbl} (hT : TOk P T0) {t u e : TypeId} {i iu ie : TI} (hi : tf T0 t = some i) (hk : i.k = .slice e 1) (hiu : tf T0 u = some iu) (hku : iu.k = .str) (hie : tf T0 e = some ie) (hke : ie.k = .int .u8)
    {w0 w : World} {T : List Nat} {H : Heap} (hS : St w0 T H w) {s : Bytes} {K : Value → World → Prop}
    (h : ∀ b c z fz w', s.length ≤ c ∧ s.length ≤ fz.1 → St w0 T ((b, .cells ⟨s.map byteV ++ z⟩ e fz) :: H) w' → K (.slice (some ⟨b, 0, none⟩) s.length c) w') : RunG P (convert u t (Str s)) w K := by
  have h1 := und_of hT hiu; rw [hku] at h1
  have h2 := und_of hT hi; rw [hk] at h2
  have h3 := und_of hT hie; rw [hke] at h3
  have hge := grownCap_ge w s.length 0 e
  have e1 : bytesRow ⟨⟨s⟩⟩ (grownCap w s.length 0 e) = ⟨s.map byteV ++ List.replicate (grownCap w s.length 0 e - s.length) (.int .u8 0)⟩ := by
    apply Array.ext'
    simp [bytesRow]; rfl
  have hrun : (convert u t (Str s)).run P w = .ok (.slice (some ⟨w.heap.size, 0, none⟩) s.length (grownCap w s.length 0 e))
      (w.drew.alloc (.cells (bytesRow ⟨⟨s⟩⟩ (grownCap w s.length 0 e)) e ((bytesRow ⟨⟨s⟩⟩ (grownCap w s.length 0 e)).size, (bytesRow ⟨⟨s⟩⟩ (grownCap w s.length 0 e)).size + 1))) := run_bytes_of_string w u t e ⟨⟨s⟩⟩ h1 h2.1 h3
  rw [e1] at hrun
  exact RunG.of hrun (h _ _ _ _ _ ⟨hge, by simp⟩ (hS.drew.alloc _))

inductive PackW (b : Nat) (bs : Bytes) : Heap → Prop where
  | mk (a : Option Addr) (cap : Nat) (L : Heap) (hv : Vec T_uint8 1 a bs.length cap (bs.map byteV) L) : PackW b bs ((b, .cells ⟨[.int .i64 bs.length, .slice a bs.length cap]⟩ T_pack_Writer (0, 0)) :: L)
theorem PNew_spec {w : World} : Cl Tryz.prog f_pack_New [] w fun v w' => ∃ b L, v = ptr b ∧ PackW b [] L ∧ St w [] L w' := by
  have hS := St.start w
  refine en_pack_New rfl ?_
  repeat (first | refine SemW.run tblOk ?_ | refine jA (by omega) ?_ | refine jB (by omega) ?_ | refine jC (by omega) ?_ | refine jD (by omega) ?_ | refine jE rfl ?_ | refine jF (by omega) ?_ | (refine jG ?_; first | with_reducible (first | refine jH ?_ | refine jI ?_ | refine jJ ?_ | refine jK ?_ | refine jL ?_) | refine jM (by omega) ?_ | refine jN (by omega) ?_ | with_reducible refine jM rfl ?_ | refine jM (by assumption) ?_ | refine jN (by assumption) ?_ | refine jM (by decide) ?_ | refine jN (by decide) ?_) | refine jF (ptr_ok tblOk rfl rfl) ?_ | refine jO (fun _ => by kernel_rfl) ?_ | refine jF (by decide) ?_)
  refine hS.al ?_
  intro b w1 _ hS
  repeat (first | refine SemW.run tblOk ?_ | refine jA (by omega) ?_ | refine jB (by omega) ?_ | refine jC (by omega) ?_ | refine jD (by omega) ?_ | refine jE rfl ?_ | refine jF (by omega) ?_ | (refine jG ?_; first | with_reducible (first | refine jH ?_ | refine jI ?_ | refine jJ ?_ | refine jK ?_ | refine jL ?_) | refine jM (by omega) ?_ | refine jN (by omega) ?_ | with_reducible refine jM rfl ?_ | refine jM (by assumption) ?_ | refine jN (by assumption) ?_ | refine jM (by decide) ?_ | refine jN (by decide) ?_) | refine jF (ptr_ok tblOk rfl rfl) ?_ | refine jO (fun _ => by kernel_rfl) ?_ | refine jF (by decide) ?_)
  exact ⟨b, _, rfl, PackW.mk none 0 [] Vec.nil, hS⟩
theorem add_spec {w : World} {b : Nat} {bs : Bytes} {L : Heap} (hW : PackW b bs L) (hh : Holds L w) {a : Option Addr} {cap : Nat} {xs : Bytes} (ha : Arr w (keys L) a (xs.map byteV)) (hlen : bs.length + xs.length ≤ 140737488355328) :
    Cl Tryz.prog f_pack_Writer_add [ptr b, .slice a xs.length cap] w fun _ w' => ∃ L', PackW b (bs ++ xs) L' ∧ St w (keys L) L' w' := by
  have hS := St.enter hh
  generalize hT : keys L = T0 at hS ha ⊢
  obtain ⟨a0, c0, L0, hv⟩ := hW
  refine en_pack_Writer_add rfl ?_
  repeat (first | refine SemW.run tblOk ?_ | refine jA (by omega) ?_ | refine jB (by omega) ?_ | refine jC (by omega) ?_ | refine jD (by omega) ?_ | refine jE rfl ?_ | refine jF (by omega) ?_ | (refine jG ?_; first | with_reducible (first | refine jH ?_ | refine jI ?_ | refine jJ ?_ | refine jK ?_ | refine jL ?_) | refine jM (by omega) ?_ | refine jN (by omega) ?_ | with_reducible refine jM rfl ?_ | refine jM (by assumption) ?_ | refine jN (by assumption) ?_ | refine jM (by decide) ?_ | refine jN (by decide) ?_) | refine jF (ptr_ok tblOk rfl rfl) ?_ | refine jO (fun _ => by kernel_rfl) ?_ | refine jF (by decide) ?_ | refine hS.ld rfl ?_ | refine hS.ldn rfl ?_ | (refine hS.st rfl rfl ?_; intro _ hS))
  refine St.app (sz := 1) (m := xs.length) tblOk rfl rfl rfl rfl hS hv (news := xs.map byteV) (by simp) ((hS.arrOld ha).sub (by simp)) (by simp [byteV, Value.oneCell']) (by show (_ + _) * 1 ≤ _; omega) (by omega) ?_
  intro a' c' L' w' hv' hS
  have hl : (bs ++ xs).length = bs.length + xs.length := List.length_append
  rw [← hl, ← List.map_append] at hv'
  rw [← hl]
  repeat (first | refine SemW.run tblOk ?_ | refine jA (by omega) ?_ | refine jB (by omega) ?_ | refine jC (by omega) ?_ | refine jD (by omega) ?_ | refine jE rfl ?_ | refine jF (by omega) ?_ | (refine jG ?_; first | with_reducible (first | refine jH ?_ | refine jI ?_ | refine jJ ?_ | refine jK ?_ | refine jL ?_) | refine jM (by omega) ?_ | refine jN (by omega) ?_ | with_reducible refine jM rfl ?_ | refine jM (by assumption) ?_ | refine jN (by assumption) ?_ | refine jM (by decide) ?_ | refine jN (by decide) ?_) | refine jF (ptr_ok tblOk rfl rfl) ?_ | refine jO (fun _ => by kernel_rfl) ?_ | refine jF (by decide) ?_ | refine hS.ld rfl ?_ | refine hS.ldn rfl ?_ | (refine hS.st rfl rfl ?_; intro _ hS))
  refine ⟨_, PackW.mk a' c' L' hv', ?_⟩
  rw [show (((bs ++ xs).length : Nat) : Int) = (bs.length : Int) + (xs.length : Int) by rw [hl]; omega]
  exact hS

def u64V (n : Nat) : Value := .int .u64 n
theorem or128 (m : Nat) : orI .u8 (IntKind.u8.wrap (m : Int)) 128 = (((UInt8.ofNat (m % 128 + 128)).toNat : Nat) : Int) := by
  have e1 : IntKind.u8.wrap (m : Int) = ((m % 256 : Nat) : Int) := wrapU .u8 rfl m
  rw [e1]
  have h := Nat.mod_lt m (show 0 < 256 by omega)
  have e2 : m % 128 = m % 256 % 128 := by omega
  rw [e2]
  generalize m % 256 = r at h
  have key : ∀ r : Fin 256, orI .u8 ((r.val : Nat) : Int) 128 = (((UInt8.ofNat (r.val % 128 + 128)).toNat : Nat) : Int) := by decide +kernel
  exact key ⟨r, h⟩
theorem numbs_succ (ns : List Nat) (k : Nat) (hk : k < ns.length) : ((ns.take (k + 1)).map numB).flatten = ((ns.take k).map numB).flatten ++ numB ns[k] := by
  rw [List.take_succ_eq_append_getElem hk, List.map_append, List.flatten_append, List.map_cons, List.map_nil, List.flatten_cons, List.flatten_nil, List.append_nil]
theorem numB_len10 (n : Nat) (h : n < 18446744073709551616) : (numB n).length ≤ 10 := numB_len 9 n (Nat.lt_of_lt_of_le h (by decide))
theorem numbs_len (ns : List Nat) (h : ∀ n ∈ ns, n < 18446744073709551616) : ((ns.map numB).flatten).length ≤ 10 * ns.length := by
  induction ns with
  | nil => simp
  | cons n r ih =>
    have h1 := numB_len10 n (h n (by simp))
    have h2 := ih (fun m hm => h m (List.mem_cons_of_mem _ hm))
    simp only [List.map_cons, List.flatten_cons, List.length_append, List.length_cons]; omega
theorem byteV_ofNat (m : Nat) (h : m < 256) : byteV (UInt8.ofNat m) = .int .u8 (m : Int) := by
  have : (UInt8.ofNat m).toNat = m := by simp; omega
  unfold byteV; rw [this]

set_option maxHeartbeats 1000000 in
theorem Num_spec {w : World} {b : Nat} {bs : Bytes} {L : Heap} (hW : PackW b bs L) (hh : Holds L w) {a : Option Addr} {cap : Nat} {ns : List Nat} (ha : Arr w (keys L) a (ns.map u64V)) (hn : ∀ n ∈ ns, n < 18446744073709551616) (_hl : ns.length ≤ 1099511627776) (hlen : bs.length + 10 * ns.length ≤ 140737488355328) :
    Cl Tryz.prog f_pack_Writer_Num [ptr b, .slice a ns.length cap] w fun _ w' => ∃ L', PackW b (bs ++ (ns.map numB).flatten) L' ∧ St w (keys L) L' w' := by
  have hS := St.enter hh
  generalize hT : keys L = T0 at hS ha ⊢
  refine en_pack_Writer_Num rfl ?_
  repeat (first | refine SemW.run tblOk ?_ | refine jA (by omega) ?_ | refine jB (by omega) ?_ | refine jC (by omega) ?_ | refine jD (by omega) ?_ | refine jE rfl ?_ | refine jF (by omega) ?_ | (refine jG ?_; first | with_reducible (first | refine jH ?_ | refine jI ?_ | refine jJ ?_ | refine jK ?_ | refine jL ?_) | refine jM (by omega) ?_ | refine jN (by omega) ?_ | with_reducible refine jM rfl ?_ | refine jM (by assumption) ?_ | refine jN (by assumption) ?_ | refine jM (by decide) ?_ | refine jN (by decide) ?_) | refine jF (ptr_ok tblOk rfl rfl) ?_ | refine jO (fun _ => by kernel_rfl) ?_ | refine jF (by decide) ?_)
  refine SemW.loop (fun k : Nat => [(0, ptr b), (6, .slice a ns.length cap), (7, .int .i64 ns.length), (8, .int .i64 k)])
    (fun k w' => k ≤ ns.length ∧ ∃ L', PackW b (bs ++ ((ns.take k).map numB).flatten) L' ∧ St w T0 L' w') (fun k => ns.length - k) 0
    ⟨rfl, rfl, rfl, rfl, trivial⟩ ⟨Nat.zero_le _, L, by simpa using hW, hS⟩ ?_
  rintro k w1 ⟨hk, L1, hW1, hS⟩
  by_cases hkl : k < ns.length
  · obtain ⟨b', off', rfl, hbT, hck⟩ := ha.get (j := k) (by simp; omega)
    simp only [List.getElem_map] at hck
    have hs := numbs_succ ns k hkl
    have hnk := hn ns[k] (List.getElem_mem hkl)
    have hln := numbs_len (ns.take k) (fun n h => hn n (List.mem_of_mem_take h))
    have hlt : (ns.take k).length = k := by simp; omega
    have h10 := numB_len10 _ hnk
    repeat (first | refine SemW.run tblOk ?_ | refine jA (by omega) ?_ | refine jB (by omega) ?_ | refine jC (by omega) ?_ | refine jD (by omega) ?_ | refine jE rfl ?_ | refine jF (by omega) ?_ | (refine jG ?_; first | with_reducible (first | refine jH ?_ | refine jI ?_ | refine jJ ?_ | refine jK ?_ | refine jL ?_) | refine jM (by omega) ?_ | refine jN (by omega) ?_ | with_reducible refine jM rfl ?_ | refine jM (by assumption) ?_ | refine jN (by assumption) ?_ | refine jM (by decide) ?_ | refine jN (by decide) ?_) | refine jF (ptr_ok tblOk rfl rfl) ?_ | refine jO (fun _ => by kernel_rfl) ?_ | refine jF (by decide) ?_)
    refine hS.ldOld hbT (by simpa using hck) ?_
    repeat (first | refine SemW.run tblOk ?_ | refine jA (by omega) ?_ | refine jB (by omega) ?_ | refine jC (by omega) ?_ | refine jD (by omega) ?_ | refine jE rfl ?_ | refine jF (by omega) ?_ | (refine jG ?_; first | with_reducible (first | refine jH ?_ | refine jI ?_ | refine jJ ?_ | refine jK ?_ | refine jL ?_) | refine jM (by omega) ?_ | refine jN (by omega) ?_ | with_reducible refine jM rfl ?_ | refine jM (by assumption) ?_ | refine jN (by assumption) ?_ | refine jM (by decide) ?_ | refine jN (by decide) ?_) | refine jF (ptr_ok tblOk rfl rfl) ?_ | refine jO (fun _ => by kernel_rfl) ?_ | refine jF (by decide) ?_)
    refine SemW.loop (fun x : Nat × Bytes => [(0, ptr b), (5, u64V x.1), (6, .slice (some ⟨b', off', none⟩) ns.length cap), (7, .int .i64 ns.length), (8, .int .i64 k)])
      (fun x w' => x.2 ++ numB x.1 = numB ns[k] ∧ ∃ L', PackW b (bs ++ ((ns.take k).map numB).flatten ++ x.2) L' ∧ St w T0 L' w') (fun x => x.1) (ns[k], [])
      ⟨rfl, rfl, rfl, rfl, rfl, trivial⟩ ⟨rfl, L1, by simpa using hW1, hS⟩ ?_
    rintro ⟨m, p⟩ w2 ⟨hp, L2, hW2, hS⟩
    simp only at hp hW2 ⊢
    have hpl := congrArg List.length hp
    rw [List.length_append] at hpl
    have hpos := numB_pos m
    by_cases hm : m < 128
    · rw [numB_lt hm] at hp
      repeat (first | refine SemW.run tblOk ?_ | refine jA (by omega) ?_ | refine jB (by omega) ?_ | refine jC (by omega) ?_ | refine jD (by omega) ?_ | refine jE rfl ?_ | refine jF (by omega) ?_ | (refine jG ?_; first | with_reducible (first | refine jH ?_ | refine jI ?_ | refine jJ ?_ | refine jK ?_ | refine jL ?_) | refine jM (by omega) ?_ | refine jN (by omega) ?_ | with_reducible refine jM rfl ?_ | refine jM (by assumption) ?_ | refine jN (by assumption) ?_ | refine jM (by decide) ?_ | refine jN (by decide) ?_) | refine jF (ptr_ok tblOk rfl rfl) ?_ | refine jO (fun _ => by kernel_rfl) ?_ | refine jF (by decide) ?_)
      refine hS.al ?_
      intro r w3 _ hS
      repeat (first | refine SemW.run tblOk ?_ | refine jA (by omega) ?_ | refine jB (by omega) ?_ | refine jC (by omega) ?_ | refine jD (by omega) ?_ | refine jE rfl ?_ | refine jF (by omega) ?_ | (refine jG ?_; first | with_reducible (first | refine jH ?_ | refine jI ?_ | refine jJ ?_ | refine jK ?_ | refine jL ?_) | refine jM (by omega) ?_ | refine jN (by omega) ?_ | with_reducible refine jM rfl ?_ | refine jM (by assumption) ?_ | refine jN (by assumption) ?_ | refine jM (by decide) ?_ | refine jN (by decide) ?_) | refine jF (ptr_ok tblOk rfl rfl) ?_ | refine jO (fun _ => by kernel_rfl) ?_ | refine jF (by decide) ?_)
      refine Cl.mono (add_spec hW2 (hS.part (L := L2)) (xs := [UInt8.ofNat m]) (by rw [List.map_cons, byteV_ofNat m (by omega)]; exact hS.arr (b := r) (nodup_new hS)) (by rw [List.length_append, List.length_append, List.length_singleton]; omega)) ?_
      rintro _ w4 ⟨L3, hW3, hS'⟩
      have hS := (hS.call (L := L2) hS').sub (List.sublist_cons_self _ _)
      repeat (first | refine SemW.run tblOk ?_ | refine jA (by omega) ?_ | refine jB (by omega) ?_ | refine jC (by omega) ?_ | refine jD (by omega) ?_ | refine jE rfl ?_ | refine jF (by omega) ?_ | (refine jG ?_; first | with_reducible (first | refine jH ?_ | refine jI ?_ | refine jJ ?_ | refine jK ?_ | refine jL ?_) | refine jM (by omega) ?_ | refine jN (by omega) ?_ | with_reducible refine jM rfl ?_ | refine jM (by assumption) ?_ | refine jN (by assumption) ?_ | refine jM (by decide) ?_ | refine jN (by decide) ?_) | refine jF (ptr_ok tblOk rfl rfl) ?_ | refine jO (fun _ => by kernel_rfl) ?_ | refine jF (by decide) ?_)
      refine ⟨k + 1, ⟨rfl, rfl, rfl, rfl, trivial⟩, ⟨by omega, L3, ?_, hS⟩, by omega⟩
      rw [hs, ← hp, ← List.append_assoc, ← List.append_assoc]
      exact hW3
    · rw [numB_ge hm] at hp
      have hpos2 := numB_pos (m / 128)
      rw [numB_ge hm, List.length_cons] at hpl
      repeat (first | refine SemW.run tblOk ?_ | refine jA (by omega) ?_ | refine jB (by omega) ?_ | refine jC (by omega) ?_ | refine jD (by omega) ?_ | refine jE rfl ?_ | refine jF (by omega) ?_ | (refine jG ?_; first | with_reducible (first | refine jH ?_ | refine jI ?_ | refine jJ ?_ | refine jK ?_ | refine jL ?_) | refine jM (by omega) ?_ | refine jN (by omega) ?_ | with_reducible refine jM rfl ?_ | refine jM (by assumption) ?_ | refine jN (by assumption) ?_ | refine jM (by decide) ?_ | refine jN (by decide) ?_) | refine jF (ptr_ok tblOk rfl rfl) ?_ | refine jO (fun _ => by kernel_rfl) ?_ | refine jF (by decide) ?_)
      refine hS.al ?_
      intro r w3 _ hS
      repeat (first | refine SemW.run tblOk ?_ | refine jA (by omega) ?_ | refine jB (by omega) ?_ | refine jC (by omega) ?_ | refine jD (by omega) ?_ | refine jE rfl ?_ | refine jF (by omega) ?_ | (refine jG ?_; first | with_reducible (first | refine jH ?_ | refine jI ?_ | refine jJ ?_ | refine jK ?_ | refine jL ?_) | refine jM (by omega) ?_ | refine jN (by omega) ?_ | with_reducible refine jM rfl ?_ | refine jM (by assumption) ?_ | refine jN (by assumption) ?_ | refine jM (by decide) ?_ | refine jN (by decide) ?_) | refine jF (ptr_ok tblOk rfl rfl) ?_ | refine jO (fun _ => by kernel_rfl) ?_ | refine jF (by decide) ?_)
      refine Cl.mono (add_spec hW2 (hS.part (L := L2)) (xs := [UInt8.ofNat (m % 128 + 128)]) (by have := hS.arr (b := r) (nodup_new hS); rw [or128] at this; exact this) (by rw [List.length_append, List.length_append, List.length_singleton]; omega)) ?_
      rintro _ w4 ⟨L3, hW3, hS'⟩
      have hS := (hS.call (L := L2) hS').sub (List.sublist_cons_self _ _)
      repeat (first | refine SemW.run tblOk ?_ | refine jA (by omega) ?_ | refine jB (by omega) ?_ | refine jC (by omega) ?_ | refine jD (by omega) ?_ | refine jE rfl ?_ | refine jF (by omega) ?_ | (refine jG ?_; first | with_reducible (first | refine jH ?_ | refine jI ?_ | refine jJ ?_ | refine jK ?_ | refine jL ?_) | refine jM (by omega) ?_ | refine jN (by omega) ?_ | with_reducible refine jM rfl ?_ | refine jM (by assumption) ?_ | refine jN (by assumption) ?_ | refine jM (by decide) ?_ | refine jN (by decide) ?_) | refine jF (ptr_ok tblOk rfl rfl) ?_ | refine jO (fun _ => by kernel_rfl) ?_ | refine jF (by decide) ?_)
      refine ⟨(m / 128, p ++ [UInt8.ofNat (m % 128 + 128)]), ⟨rfl, ?_, rfl, rfl, rfl, trivial⟩, ⟨by simpa using hp, L3, by rw [← List.append_assoc]; exact hW3, hS⟩, by simp only; omega⟩
      show Value.int .u64 ((m : Int).fdiv (2 ^ 7)) = u64V (m / 128)
      rw [fdivP]; rfl
  · have hke : k = ns.length := by omega
    subst hke
    rw [List.take_length] at hW1
    repeat (first | refine SemW.run tblOk ?_ | refine jA (by omega) ?_ | refine jB (by omega) ?_ | refine jC (by omega) ?_ | refine jD (by omega) ?_ | refine jE rfl ?_ | refine jF (by omega) ?_ | (refine jG ?_; first | with_reducible (first | refine jH ?_ | refine jI ?_ | refine jJ ?_ | refine jK ?_ | refine jL ?_) | refine jM (by omega) ?_ | refine jN (by omega) ?_ | with_reducible refine jM rfl ?_ | refine jM (by assumption) ?_ | refine jN (by assumption) ?_ | refine jM (by decide) ?_ | refine jN (by decide) ?_) | refine jF (ptr_ok tblOk rfl rfl) ?_ | refine jO (fun _ => by kernel_rfl) ?_ | refine jF (by decide) ?_)
    exact ⟨L1, hW1, hS⟩

/-- A whole number's fold, as the machine does it. -/
theorem zig_eq (z : Int) (h1 : -9223372036854775808 ≤ z) (h2 : z ≤ 9223372036854775807) :
    xorI .u64 (IntKind.u64.wrap (IntKind.u64.wrap z * 2 ^ 1)) (IntKind.u64.wrap (z.fdiv (2 ^ 63))) = (zig z : Int) ∧ zig z < 18446744073709551616 := by
  unfold zig
  by_cases h0 : 0 ≤ z
  · rw [if_pos h0]
    obtain ⟨n, rfl⟩ := Int.eq_ofNat_of_zero_le h0
    have e0 : ((n : Nat) : Int).toNat = n := Int.toNat_natCast n
    have e1 : IntKind.u64.wrap ((n : Nat) : Int) = (n : Int) := by rw [wrapU .u64 rfl]; congr 1; exact Nat.mod_eq_of_lt (by show n < 18446744073709551616; omega)
    have e2 : IntKind.u64.wrap ((n : Int) * 2 ^ 1) = ((2 * n : Nat) : Int) := by
      rw [show ((n : Nat) : Int) * 2 ^ 1 = ((2 * n : Nat) : Int) by omega, wrapU .u64 rfl]; congr 1; exact Nat.mod_eq_of_lt (by show 2 * n < 18446744073709551616; omega)
    have e3 : ((n : Nat) : Int).fdiv (2 ^ 63) = ((0 : Nat) : Int) := by
      rw [fdivP]; congr 1; exact Nat.div_eq_of_lt (by omega)
    have e4 : IntKind.u64.wrap ((0 : Nat) : Int) = ((0 : Nat) : Int) := by rw [wrapU .u64 rfl]; rfl
    rw [e0, e1, e2, e3, e4, xorU .u64 rfl _ _ (by show 2 * n < 18446744073709551616; omega) (by decide), Nat.xor_zero]
    exact ⟨rfl, by omega⟩
  · rw [if_neg h0]
    obtain ⟨n, hn⟩ : ∃ n : Nat, z = -(n : Int) - 1 := ⟨(-(z + 1)).toNat, by omega⟩
    subst hn
    have hn9 : n < 9223372036854775808 := by omega
    have e0 : (-(-(n : Int) - 1 + 1)).toNat = n := by omega
    have e1 : IntKind.u64.wrap (-(n : Int) - 1) = ((18446744073709551615 - n : Nat) : Int) := by
      unfold IntKind.wrap; simp only [IntKind.signed, IntKind.bits]; simp; omega
    have e2 : IntKind.u64.wrap (((18446744073709551615 - n : Nat) : Int) * 2 ^ 1) = ((18446744073709551614 - 2 * n : Nat) : Int) := by
      rw [show ((18446744073709551615 - n : Nat) : Int) * 2 ^ 1 = ((2 * (18446744073709551615 - n) : Nat) : Int) by omega, wrapU .u64 rfl]; congr 1
      show 2 * (18446744073709551615 - n) % 18446744073709551616 = _; omega
    have e3 : (-(n : Int) - 1).fdiv (2 ^ 63) = -1 := by
      rw [Int.fdiv_eq_ediv_of_nonneg _ (by decide)]; omega
    have e4 : IntKind.u64.wrap (-1) = ((18446744073709551615 : Nat) : Int) := by decide
    rw [e0, e1, e2, e3, e4, xorU .u64 rfl _ _ (by show _ < 18446744073709551616; omega) (by decide)]
    have e5 : (18446744073709551614 - 2 * n) ^^^ 18446744073709551615 = 2 * n + 1 := by
      have h1 : (BitVec.ofNat 64 (18446744073709551614 - 2 * n) ^^^ BitVec.allOnes 64).toNat = (18446744073709551614 - 2 * n) ^^^ 18446744073709551615 := by
        rw [BitVec.toNat_xor, BitVec.toNat_allOnes, BitVec.toNat_ofNat, Nat.mod_eq_of_lt (by omega)]
      rw [← h1, BitVec.xor_allOnes, BitVec.toNat_not, BitVec.toNat_ofNat, Nat.mod_eq_of_lt (by omega)]; omega
    rw [e5]
    exact ⟨rfl, by omega⟩
theorem ints_succ (zs : List Int) (k : Nat) (hk : k < zs.length) : intsB (zs.take (k + 1)) = intsB (zs.take k) ++ intB zs[k] := by
  unfold intsB
  rw [List.take_succ_eq_append_getElem hk, List.map_append, List.flatten_append, List.map_cons, List.map_nil, List.flatten_cons, List.flatten_nil, List.append_nil]
def i64ok (z : Int) : Prop := -9223372036854775808 ≤ z ∧ z ≤ 9223372036854775807
theorem ints_len (zs : List Int) (h : ∀ z ∈ zs, i64ok z) : (intsB zs).length ≤ 10 * zs.length := by
  induction zs with
  | nil => simp [intsB]
  | cons z r ih =>
    have h1 := numB_len10 (zig z) (zig_eq z (h z (by simp)).1 (h z (by simp)).2).2
    have h2 := ih (fun m hm => h m (List.mem_cons_of_mem _ hm))
    simp only [intsB, List.map_cons, List.flatten_cons, List.length_append, List.length_cons, intB] at h2 ⊢; omega
set_option maxHeartbeats 1000000 in
theorem Int_spec {w : World} {b : Nat} {bs : Bytes} {L : Heap} (hW : PackW b bs L) (hh : Holds L w) {a : Option Addr} {cap : Nat} {zs : List Int} (ha : Arr w (keys L) a (zs.map intV)) (hn : ∀ z ∈ zs, i64ok z) (_hl : zs.length ≤ 1099511627776) (hlen : bs.length + 10 * zs.length ≤ 140737488355328) :
    Cl Tryz.prog f_pack_Writer_Int [ptr b, .slice a zs.length cap] w fun _ w' => ∃ L', PackW b (bs ++ intsB zs) L' ∧ St w (keys L) L' w' := by
  have hS := St.enter hh
  generalize hT : keys L = T0 at hS ha ⊢
  refine en_pack_Writer_Int rfl ?_
  repeat (first | refine SemW.run tblOk ?_ | refine jA (by omega) ?_ | refine jB (by omega) ?_ | refine jC (by omega) ?_ | refine jD (by omega) ?_ | refine jE rfl ?_ | refine jF (by omega) ?_ | (refine jG ?_; first | with_reducible (first | refine jH ?_ | refine jI ?_ | refine jJ ?_ | refine jK ?_ | refine jL ?_) | refine jM (by omega) ?_ | refine jN (by omega) ?_ | with_reducible refine jM rfl ?_ | refine jM (by assumption) ?_ | refine jN (by assumption) ?_ | refine jM (by decide) ?_ | refine jN (by decide) ?_) | refine jF (ptr_ok tblOk rfl rfl) ?_ | refine jO (fun _ => by kernel_rfl) ?_ | refine jF (by decide) ?_)
  refine SemW.loop (fun k : Nat => [(0, ptr b), (6, .slice a zs.length cap), (7, .int .i64 zs.length), (8, .int .i64 k)])
    (fun k w' => k ≤ zs.length ∧ ∃ L', PackW b (bs ++ intsB (zs.take k)) L' ∧ St w T0 L' w') (fun k => zs.length - k) 0
    ⟨rfl, rfl, rfl, rfl, trivial⟩ ⟨Nat.zero_le _, L, by simpa [intsB] using hW, hS⟩ ?_
  rintro k w1 ⟨hk, L1, hW1, hS⟩
  by_cases hkl : k < zs.length
  · obtain ⟨b', off', rfl, hbT, hck⟩ := ha.get (j := k) (by simp; omega)
    simp only [List.getElem_map] at hck
    have hs := ints_succ zs k hkl
    obtain ⟨hr1, hr2⟩ := hn zs[k] (List.getElem_mem hkl)
    obtain ⟨hz1, hz2⟩ := zig_eq zs[k] hr1 hr2
    have hln := ints_len (zs.take k) (fun n h => hn n (List.mem_of_mem_take h))
    have hlt : (zs.take k).length = k := by simp; omega
    repeat (first | refine SemW.run tblOk ?_ | refine jA (by omega) ?_ | refine jB (by omega) ?_ | refine jC (by omega) ?_ | refine jD (by omega) ?_ | refine jE rfl ?_ | refine jF (by omega) ?_ | (refine jG ?_; first | with_reducible (first | refine jH ?_ | refine jI ?_ | refine jJ ?_ | refine jK ?_ | refine jL ?_) | refine jM (by omega) ?_ | refine jN (by omega) ?_ | with_reducible refine jM rfl ?_ | refine jM (by assumption) ?_ | refine jN (by assumption) ?_ | refine jM (by decide) ?_ | refine jN (by decide) ?_) | refine jF (ptr_ok tblOk rfl rfl) ?_ | refine jO (fun _ => by kernel_rfl) ?_ | refine jF (by decide) ?_)
    refine hS.ldOld hbT (by simpa using hck) ?_
    repeat (first | refine SemW.run tblOk ?_ | refine jA (by omega) ?_ | refine jB (by omega) ?_ | refine jC (by omega) ?_ | refine jD (by omega) ?_ | refine jE rfl ?_ | refine jF (by omega) ?_ | (refine jG ?_; first | with_reducible (first | refine jH ?_ | refine jI ?_ | refine jJ ?_ | refine jK ?_ | refine jL ?_) | refine jM (by omega) ?_ | refine jN (by omega) ?_ | with_reducible refine jM rfl ?_ | refine jM (by assumption) ?_ | refine jN (by assumption) ?_ | refine jM (by decide) ?_ | refine jN (by decide) ?_) | refine jF (ptr_ok tblOk rfl rfl) ?_ | refine jO (fun _ => by kernel_rfl) ?_ | refine jF (by decide) ?_)
    refine hS.al ?_
    intro r w3 _ hS
    repeat (first | refine SemW.run tblOk ?_ | refine jA (by omega) ?_ | refine jB (by omega) ?_ | refine jC (by omega) ?_ | refine jD (by omega) ?_ | refine jE rfl ?_ | refine jF (by omega) ?_ | (refine jG ?_; first | with_reducible (first | refine jH ?_ | refine jI ?_ | refine jJ ?_ | refine jK ?_ | refine jL ?_) | refine jM (by omega) ?_ | refine jN (by omega) ?_ | with_reducible refine jM rfl ?_ | refine jM (by assumption) ?_ | refine jN (by assumption) ?_ | refine jM (by decide) ?_ | refine jN (by decide) ?_) | refine jF (ptr_ok tblOk rfl rfl) ?_ | refine jO (fun _ => by kernel_rfl) ?_ | refine jF (by decide) ?_)
    refine Cl.mono (Num_spec hW1 (hS.part (L := L1)) (ns := [zig zs[k]]) (by have := hS.arr (b := r) (nodup_new hS); rw [show min (Int.toNat 1) IntKind.u64.bits = 1 from rfl, show min (Int.toNat 63) IntKind.i64.bits = 63 from rfl, hz1] at this; exact this) (by simpa using hz2) (by simp) (by rw [List.length_append, List.length_singleton]; omega)) ?_
    rintro _ w4 ⟨L3, hW3, hS'⟩
    have hS := (hS.call (L := L1) hS').sub (List.sublist_cons_self _ _)
    repeat (first | refine SemW.run tblOk ?_ | refine jA (by omega) ?_ | refine jB (by omega) ?_ | refine jC (by omega) ?_ | refine jD (by omega) ?_ | refine jE rfl ?_ | refine jF (by omega) ?_ | (refine jG ?_; first | with_reducible (first | refine jH ?_ | refine jI ?_ | refine jJ ?_ | refine jK ?_ | refine jL ?_) | refine jM (by omega) ?_ | refine jN (by omega) ?_ | with_reducible refine jM rfl ?_ | refine jM (by assumption) ?_ | refine jN (by assumption) ?_ | refine jM (by decide) ?_ | refine jN (by decide) ?_) | refine jF (ptr_ok tblOk rfl rfl) ?_ | refine jO (fun _ => by kernel_rfl) ?_ | refine jF (by decide) ?_)
    refine ⟨k + 1, ⟨rfl, rfl, rfl, rfl, trivial⟩, ⟨by omega, L3, ?_, hS⟩, by omega⟩
    rw [hs, ← List.append_assoc]
    simpa [intB] using hW3
  · have hke : k = zs.length := by omega
    subst hke
    rw [List.take_length] at hW1
    repeat (first | refine SemW.run tblOk ?_ | refine jA (by omega) ?_ | refine jB (by omega) ?_ | refine jC (by omega) ?_ | refine jD (by omega) ?_ | refine jE rfl ?_ | refine jF (by omega) ?_ | (refine jG ?_; first | with_reducible (first | refine jH ?_ | refine jI ?_ | refine jJ ?_ | refine jK ?_ | refine jL ?_) | refine jM (by omega) ?_ | refine jN (by omega) ?_ | with_reducible refine jM rfl ?_ | refine jM (by assumption) ?_ | refine jN (by assumption) ?_ | refine jM (by decide) ?_ | refine jN (by decide) ?_) | refine jF (ptr_ok tblOk rfl rfl) ?_ | refine jO (fun _ => by kernel_rfl) ?_ | refine jF (by decide) ?_)
    exact ⟨L1, hW1, hS⟩

theorem Bytes_spec {w : World} {b : Nat} {bs : Bytes} {L : Heap} (hW : PackW b bs L) (hh : Holds L w) : Cl Tryz.prog f_pack_Writer_Bytes [ptr b] w fun v w' => v = Str bs ∧ St w (keys L) L w' := by
  have hS := St.enter hh
  generalize hT : keys L = T0 at hS ⊢
  obtain ⟨a0, c0, L0, hv⟩ := hW
  refine en_pack_Writer_Bytes rfl ?_
  repeat (first | refine SemW.run tblOk ?_ | refine jA (by omega) ?_ | refine jB (by omega) ?_ | refine jC (by omega) ?_ | refine jD (by omega) ?_ | refine jE rfl ?_ | refine jF (by omega) ?_ | (refine jG ?_; first | with_reducible (first | refine jH ?_ | refine jI ?_ | refine jJ ?_ | refine jK ?_ | refine jL ?_) | refine jM (by omega) ?_ | refine jN (by omega) ?_ | with_reducible refine jM rfl ?_ | refine jM (by assumption) ?_ | refine jN (by assumption) ?_ | refine jM (by decide) ?_ | refine jN (by decide) ?_) | refine jF (ptr_ok tblOk rfl rfl) ?_ | refine jO (fun _ => by kernel_rfl) ?_ | refine jF (by decide) ?_ | refine hS.ld rfl ?_ | refine hS.ldn rfl ?_ | (refine hS.st rfl rfl ?_; intro _ hS))
  refine toStr (T := []) tblOk rfl rfl rfl rfl rfl rfl (bs := bs) rfl (fun w' hw' => by subst hw'; exact hv.arr hS (by simp)) ?_
  repeat (first | refine SemW.run tblOk ?_ | refine jA (by omega) ?_ | refine jB (by omega) ?_ | refine jC (by omega) ?_ | refine jD (by omega) ?_ | refine jE rfl ?_ | refine jF (by omega) ?_ | (refine jG ?_; first | with_reducible (first | refine jH ?_ | refine jI ?_ | refine jJ ?_ | refine jK ?_ | refine jL ?_) | refine jM (by omega) ?_ | refine jN (by omega) ?_ | with_reducible refine jM rfl ?_ | refine jM (by assumption) ?_ | refine jN (by assumption) ?_ | refine jM (by decide) ?_ | refine jN (by decide) ?_) | refine jF (ptr_ok tblOk rfl rfl) ?_ | refine jO (fun _ => by kernel_rfl) ?_ | refine jF (by decide) ?_)
  exact ⟨rfl, hS⟩
end Go.Proofs.YthpmmfapolcaiaaGreatDoor

/- Plain words for the digest of 32 bytes. -/
namespace Go.Proofs.YthpmmfapolcaiaaGreatDoor
open Go Go.Eng

def p32 : Nat := 4294967296
/-- Turned right by n bits. -/
def rotr (n x : Nat) : Nat := x / 2 ^ n + x % 2 ^ n * 2 ^ (32 - n)
theorem rotr_lt (n x : Nat) (h : n ≤ 32) (hx : x < p32) : rotr n x < p32 := by
  unfold rotr
  have hP : 0 < (2 : Nat) ^ n := Nat.pow_pos (by omega)
  have hM : 0 < (2 : Nat) ^ (32 - n) := Nat.pow_pos (by omega)
  have hpm : (2 : Nat) ^ n * 2 ^ (32 - n) = p32 := by rw [← Nat.pow_add, show n + (32 - n) = 32 by omega]; rfl
  generalize (2 : Nat) ^ n = P at *
  generalize (2 : Nat) ^ (32 - n) = M at *
  have hr : x % P < P := Nat.mod_lt _ hP
  have h1 : x / P < M := by
    rw [Nat.div_lt_iff_lt_mul hP, Nat.mul_comm, hpm]; exact hx
  have h2 : (x % P + 1) * M ≤ P * M := Nat.mul_le_mul_right _ hr
  rw [Nat.add_mul, Nat.one_mul, hpm] at h2
  omega
def kList : List Nat := [1116352408, 1899447441, 3049323471, 3921009573, 961987163, 1508970993, 2453635748, 2870763221, 3624381080, 310598401, 607225278, 1426881987, 1925078388, 2162078206, 2614888103, 3248222580, 3835390401, 4022224774, 264347078, 604807628, 770255983, 1249150122, 1555081692, 1996064986, 2554220882, 2821834349, 2952996808, 3210313671, 3336571891, 3584528711, 113926993, 338241895, 666307205, 773529912, 1294757372, 1396182291, 1695183700, 1986661051, 2177026350, 2456956037, 2730485921, 2820302411, 3259730800, 3345764771, 3516065817, 3600352804, 4094571909, 275423344, 430227734, 506948616, 659060556, 883997877, 958139571, 1322822218, 1537002063, 1747873779, 1955562222, 2024104815, 2227730452, 2361852424, 2428436474, 2756734187, 3204031479, 3329325298]
def hList : List Nat := [1779033703, 3144134277, 1013904242, 2773480762, 1359893119, 2600822924, 528734635, 1541459225]
/-- The word at byte 4 i. -/
def wordAt (b : Bytes) (i : Nat) : Nat := ((b.getD (4 * i) 0).toNat * 16777216 + (b.getD (4 * i + 1) 0).toNat * 65536) + (b.getD (4 * i + 2) 0).toNat * 256 + (b.getD (4 * i + 3) 0).toNat
theorem wordAt_lt (b : Bytes) (i : Nat) : wordAt b i < p32 := by
  unfold wordAt p32
  have h0 := (b.getD (4 * i) 0).toNat_lt
  have h1 := (b.getD (4 * i + 1) 0).toNat_lt
  have h2 := (b.getD (4 * i + 2) 0).toNat_lt
  have h3 := (b.getD (4 * i + 3) 0).toNat_lt
  omega
def sg0 (x : Nat) : Nat := rotr 7 x ^^^ rotr 18 x ^^^ x / 8
def sg1 (x : Nat) : Nat := rotr 17 x ^^^ rotr 19 x ^^^ x / 1024
def wNext (w : List Nat) (i : Nat) : Nat := (w.getD (i - 16) 0 + w.getD (i - 7) 0 + sg0 (w.getD (i - 15) 0) + sg1 (w.getD (i - 2) 0)) % p32
/-- The first 16 + n words. -/
def words (b : Bytes) : Nat → List Nat
  | 0 => (List.range 16).map (wordAt b)
  | n + 1 => words b n ++ [wNext (words b n) (16 + n)]
theorem words_len (b : Bytes) : ∀ n, (words b n).length = 16 + n
  | 0 => by simp [words]
  | n + 1 => by simp [words, words_len b n]; omega
theorem words_lt (b : Bytes) : ∀ n, ∀ x ∈ words b n, x < p32
  | 0, x, h => by
    simp only [words, List.mem_map] at h
    obtain ⟨i, -, rfl⟩ := h
    exact wordAt_lt b i
  | n + 1, x, h => by
    simp only [words, List.mem_append, List.mem_singleton] at h
    rcases h with h | rfl
    · exact words_lt b n x h
    · exact Nat.mod_lt _ (by decide)
def nt (x : Nat) : Nat := p32 - 1 - x
def bs0 (a : Nat) : Nat := rotr 2 a ^^^ rotr 13 a ^^^ rotr 22 a
def bs1 (e : Nat) : Nat := rotr 6 e ^^^ rotr 11 e ^^^ rotr 25 e
def t1M (v : List Nat) (k w : Nat) : Nat := (v.getD 7 0 + bs1 (v.getD 4 0) + ((v.getD 4 0 &&& v.getD 5 0) ^^^ (nt (v.getD 4 0) &&& v.getD 6 0)) + k + w) % p32
def t2M (v : List Nat) : Nat := (bs0 (v.getD 0 0) + ((v.getD 0 0 &&& v.getD 1 0) ^^^ (v.getD 0 0 &&& v.getD 2 0) ^^^ (v.getD 1 0 &&& v.getD 2 0))) % p32
def roundM (v : List Nat) (k w : Nat) : List Nat :=
  [(t1M v k w + t2M v) % p32, v.getD 0 0, v.getD 1 0, v.getD 2 0, (v.getD 3 0 + t1M v k w) % p32, v.getD 4 0, v.getD 5 0, v.getD 6 0]
def rounds (v w : List Nat) : Nat → List Nat
  | 0 => v
  | n + 1 => roundM (rounds v w n) (kList.getD n 0) (w.getD n 0)
def addM (h v : List Nat) : List Nat := (List.range 8).map fun i => (h.getD i 0 + v.getD i 0) % p32
def stepM (h : List Nat) (b : Bytes) : List Nat := addM h (rounds h (words b 48) 64)
/-- H behind n times 64 bytes of the text. -/
def hashN (t : Bytes) : Nat → List Nat
  | 0 => hList
  | n + 1 => stepM (hashN t n) ((t.drop (64 * n)).take 64)
theorem hashN_len (t : Bytes) : ∀ n, (hashN t n).length = 8
  | 0 => rfl
  | n + 1 => by simp [hashN, stepM, addM]
theorem hashN_lt (t : Bytes) : ∀ n, ∀ x ∈ hashN t n, x < p32
  | 0, x, h => by
    have : hList.all (fun x => decide (x < p32)) = true := by decide
    exact of_decide_eq_true (List.all_eq_true.1 this x h)
  | n + 1, x, h => by
    simp only [hashN, stepM, addM, List.mem_map] at h
    obtain ⟨i, -, rfl⟩ := h
    exact Nat.mod_lt _ (by decide)
theorem hashN_app (t u : Bytes) : ∀ n, 64 * n ≤ t.length → hashN (t ++ u) n = hashN t n
  | 0, _ => rfl
  | n + 1, h => by
    simp only [hashN]
    rw [hashN_app t u n (by omega)]
    congr 1
    rw [List.drop_append_of_le_length (by omega), List.take_append_of_le_length (by rw [List.length_drop]; omega)]
def be8 (n : Nat) : Bytes := [UInt8.ofNat (n / 2 ^ 56), UInt8.ofNat (n / 2 ^ 48), UInt8.ofNat (n / 2 ^ 40), UInt8.ofNat (n / 2 ^ 32), UInt8.ofNat (n / 2 ^ 24), UInt8.ofNat (n / 2 ^ 16), UInt8.ofNat (n / 2 ^ 8), UInt8.ofNat n]
def zerosFor (n : Nat) : Nat := (119 - n % 64) % 64
def filled (t : Bytes) : Bytes := t ++ ([128] ++ List.replicate (zerosFor t.length) 0) ++ be8 (8 * t.length)
theorem filled_len (t : Bytes) : (filled t).length % 64 = 0 := by
  simp [filled, be8, zerosFor]; omega
def be4w (x : Nat) : Bytes := [UInt8.ofNat (x / 2 ^ 24), UInt8.ofNat (x / 2 ^ 16), UInt8.ofNat (x / 2 ^ 8), UInt8.ofNat x]
/-- The digest. -/
def shaB (t : Bytes) : Bytes := ((hashN (filled t) ((filled t).length / 64)).map be4w).flatten
theorem shaB_len (t : Bytes) : (shaB t).length = 32 := by
  have h := hashN_len (filled t) ((filled t).length / 64)
  have key : ∀ l : List Nat, ((l.map be4w).flatten).length = 4 * l.length := by
    intro l
    induction l with
    | nil => rfl
    | cons x r ih => simp only [List.map_cons, List.flatten_cons, List.length_append, ih, be4w, List.length_cons, List.length_nil]; omega
  unfold shaB
  rw [key, h]
def key64 (key : Bytes) : Bytes := (if 64 < key.length then shaB key else key) ++ List.replicate (64 - (if 64 < key.length then shaB key else key).length) 0
def macB (key text : Bytes) : Bytes := shaB ((key64 key).map (fun c => c ^^^ 0x5c) ++ shaB ((key64 key).map (fun c => c ^^^ 0x36) ++ text))
theorem macB_len (key text : Bytes) : (macB key text).length = 32 := shaB_len _
end Go.Proofs.YthpmmfapolcaiaaGreatDoor

/- A string's bytes appended to an own slice anywhere in its block; []byte(s). -/
namespace Go.Eng
open Go
section
variable {P : Program} {T0 : Tbl}
/-- append(v, s...) of a string's bytes, to a slice anywhere in its block. -/
theorem St.appOStr (hT : TOk P T0) {t u e ty : TypeId} {i iu ie : TI} (hi : tf T0 t = some i) (hk : i.k = .slice e 1) (hiu : tf T0 u = some iu) (hku : iu.k = .str) (hie : tf T0 e = some ie)
    (hz : ie.zero.cells.size = 1) {w0 w : World} {T : List Nat} {H L : Heap} {F : Heap → Heap} (hS : St w0 T H w) {a : Option Addr} {n cap : Nat} {xs : List Value} (hv : VecO e a n cap xs L) [hc : Chunk H L F]
    {s : List UInt8}
    (hlen : (n + s.length) * ie.bytes ≤ 140737488355328) (hlen' : n + s.length ≤ 9223372036854775807) {K : Value → World → Prop}
    (h : ∀ a' cap' L' w', VecO e a' (n + s.length) cap' (xs ++ s.map byteV) L' → St w0 T (F L') w' → K (.slice a' (n + s.length) cap') w') :
    RunG P (Builtin.append_ ⟨[t, u]⟩ ty ⟨[.slice a n cap, Str s]⟩) w K := by
  have hu := und_of hT hiu
  rw [hku] at hu
  obtain ⟨m, hmd⟩ : ∃ m, m = s.length := ⟨_, rfl⟩
  obtain ⟨news, hnews⟩ : ∃ l, l = s.map byteV := ⟨_, rfl⟩
  have hm : news.length = m := by rw [hnews, hmd]; simp
  have h1 : news.all Value.oneCell' = true := by rw [hnews]; simp [byteV, Value.oneCell']
  rw [← hmd] at hlen hlen'
  have h : ∀ a' cap' L' w', VecO e a' (n + m) cap' (xs ++ news) L' → St w0 T (F L') w' → K (.slice a' (n + m) cap') w' := by rw [hmd, hnews]; exact h
  have hlo : (Builtin.lenOf (Str s)).run P w = .ok m w := by rw [hmd]; rfl
  obtain ⟨x, hx0⟩ : ∃ x, x = Str s := ⟨_, rfl⟩
  have ht := und_of hT hi
  rw [hk] at ht
  obtain ⟨ht, hes⟩ := ht
  obtain ⟨inf, hinf, hzz, hs1, hby⟩ := info_of hT hie
  have hsz : inf.size = 1 := by rw [hinf] at hes; simpa using hes
  have hpart : Holds L w := hS.part (L := L)
  have hin := St.enter hpart
  have hsrc : ∀ w', w'.heap = w.heap → (Builtin.firstCells 1 m (Str s)).run P w' = .ok ⟨news⟩ w' := fun w' _ => by
    subst hmd hnews
    show Result.ok _ _ = _
    congr 1
    apply Array.ext'
    simp [ByteArray.data_extract]
    intro a _; rfl
  rw [← hx0] at hsrc hlo ⊢
  have step : ∀ o, St w0 T (F [(w.heap.size, o)]) (w.drew.alloc o) := fun o =>
    hS.call (L := L) (((hin.drew).alloc o).sub (List.Sublist.cons_cons _ (List.nil_sublist _)))
  cases hv with
  | nil =>
    subst hx0 hmd hnews
    exact St.appStr hT hi hk hiu hku hie hz hS Vec.nil hlen hlen' fun a' cap' L' w' h2 h3 => h a' cap' L' w' (VecO.of h2) h3
  | row g pre xs l post n cap fz hf hx hl =>
    have hg : w.heap[g]? = some (.cells ⟨pre ++ (xs ++ (l ++ post))⟩ e fz) := hpart.own _ (List.mem_singleton.2 rfl)
    by_cases hroom : n + m ≤ cap
    · have hst := run_storeCells_fz P g (pre.length + n * 1) e fz news 0 ⟨pre ++ (xs ++ (l ++ post))⟩ w hg (by simp only [List.length_append] at hf; omega) (by simp; omega) (fun v hv => List.all_eq_true.1 h1 v hv)
      simp only [Nat.add_zero] at hst
      have e1 : (pre ++ (xs ++ (l ++ post))).take (pre.length + n * 1) = pre ++ xs := by
        rw [← List.append_assoc, show pre.length + n * 1 = (pre ++ xs).length by simp; omega, List.take_left]
      have e2 : (pre ++ (xs ++ (l ++ post))).drop (pre.length + n * 1 + news.length) = l.drop m ++ post := by
        rw [← List.append_assoc, show pre.length + n * 1 + news.length = (pre ++ xs).length + m by simp; omega, List.drop_append, List.drop_eq_nil_of_le (by omega), List.nil_append,
          show (pre ++ xs).length + m - (pre ++ xs).length = m by omega, List.drop_append_of_le_length (by omega)]
      have e3 : pre ++ xs ++ news ++ (l.drop m ++ post) = pre ++ ((xs ++ news) ++ (l.drop m ++ post)) := by simp
      have hv2 := VecO.row (e := e) g pre (xs ++ news) (l.drop m) post (n + m) cap fz (by simp only [List.length_append, List.length_drop] at hf ⊢; omega) (by simp; omega) (by simp; omega)
      refine RunG.of ?_ (h (some ⟨g, pre.length, none⟩) cap _ (w.setRow g ⟨pre ++ ((xs ++ news) ++ (l.drop m ++ post))⟩) hv2 ?_)
      · simp only [e1, e2] at hst
        rw [← e3]
        simp [Builtin.append_, run_underlying ht, run_underlying hu, sizeOf, typeInfo, hinf, hsz, hlo, hroom, hsrc w rfl, Addr.add_eq]
        rw [show pre.length + n = pre.length + n * 1 by omega, hst]
        simp
      · exact hS.call (L := [(g, .cells ⟨pre ++ (xs ++ (l ++ post))⟩ e fz)]) (hin.setRow (b := g) (l := pre ++ (xs ++ (l ++ post))) (l' := pre ++ ((xs ++ news) ++ (l.drop m ++ post))))
    · have hge := grownCap_ge w (n + m) cap e
      have h3 : ¬ (9223372036854775807 < ((n : Int) + (m : Int))) := by omega
      have h4 : ¬ (281474976710656 < Builtin.nextslicecap (n + m) cap * inf.bytes) := by
        have := growslice_fits (need := n + m) (old := cap) (bytes := inf.bytes) (by omega) (by rw [hby]; exact hlen)
        omega
      have h5 := hsrc w.drew rfl
      have hfo := run_firstCells_some (P := P) w.drew 1 n ⟨g, pre.length, none⟩ n cap xs (by omega) (fun j v hj => by
        rw [Addr.add_eq]
        have hlt : j < xs.length := (List.getElem?_eq_some_iff.1 hj).1
        have hg' : w.drew.heap[g]? = some (.cells ⟨pre ++ (xs ++ (l ++ post))⟩ e fz) := hg
        simp only [World.cell?, hg', Option.isSome_none, Bool.false_eq_true, if_false]
        rw [show (Array.mk (pre ++ (xs ++ (l ++ post))))[pre.length + j]? = (pre ++ (xs ++ (l ++ post)))[pre.length + j]? by simp, List.getElem?_append_right (by omega), show pre.length + j - pre.length = j by omega, List.getElem?_append_left hlt]
        exact hj)
      have hV := VecO.row (e := e) w.heap.size [] (xs ++ news) (Builtin.zeroCells ie.zero.cells (grownCap w (n + m) cap e - (n + m))).toList [] (n + m) (grownCap w (n + m) cap e) (0, 0) (.inl (Nat.zero_le _)) (by simp; omega) (by rw [zeroCells_len, hz]; simp; omega)
      refine RunG.of ?_ (h _ _ _ _ hV (step _))
      simp [Builtin.append_, run_underlying ht, run_underlying hu, sizeOf, typeInfo, zeroValue, hinf, hzz, hsz, hlo, hroom, h3, h4, Question.forced, hfo, h5, newRow, grownCap]
      congr 2
      apply Array.ext'
      simp
end
/-- []byte(s): a slice of the call's own. -/
theorem St.toBytesV {P : Program} {T0 : Tbl} (hT : TOk P T0) {t u e : TypeId} {i iu ie : TI} (hi : tf T0 t = some i) (hk : i.k = .slice e 1) (hiu : tf T0 u = some iu) (hku : iu.k = .str) (hie : tf T0 e = some ie) (hke : ie.k = .int .u8)
    {w0 w : World} {T : List Nat} {H : Heap} (hS : St w0 T H w) {s : List UInt8} {K : Value → World → Prop}
    (h : ∀ a c L w', VecO e a s.length c (s.map byteV) L → St w0 T (L ++ H) w' → K (.slice a s.length c) w') : RunG P (convert u t (Str s)) w K := by
  have h1 := und_of hT hiu; rw [hku] at h1
  have h2 := und_of hT hi; rw [hk] at h2
  have h3 := und_of hT hie; rw [hke] at h3
  have hge := grownCap_ge w s.length 0 e
  have e1 : bytesRow ⟨⟨s⟩⟩ (grownCap w s.length 0 e) = ⟨[] ++ (s.map byteV ++ (List.replicate (grownCap w s.length 0 e - s.length) (.int .u8 0) ++ []))⟩ := by
    apply Array.ext'
    simp [bytesRow]; rfl
  have hrun : (convert u t (Str s)).run P w = .ok (.slice (some ⟨w.heap.size, 0, none⟩) s.length (grownCap w s.length 0 e))
      (w.drew.alloc (.cells (bytesRow ⟨⟨s⟩⟩ (grownCap w s.length 0 e)) e ((bytesRow ⟨⟨s⟩⟩ (grownCap w s.length 0 e)).size, (bytesRow ⟨⟨s⟩⟩ (grownCap w s.length 0 e)).size + 1))) := run_bytes_of_string w u t e ⟨⟨s⟩⟩ h1 h2.1 h3
  have hv := VecO.row (e := e) w.drew.heap.size [] (s.map byteV) (List.replicate (grownCap w s.length 0 e - s.length) (.int .u8 0)) [] s.length (grownCap w s.length 0 e) ((bytesRow ⟨⟨s⟩⟩ (grownCap w s.length 0 e)).size, (bytesRow ⟨⟨s⟩⟩ (grownCap w s.length 0 e)).size + 1)
    (.inr (by rw [e1]; simp)) (by simp) (by simp; omega)
  refine RunG.of hrun (h _ _ _ _ hv ?_)
  have := hS.drew.alloc (.cells (bytesRow ⟨⟨s⟩⟩ (grownCap w s.length 0 e)) e ((bytesRow ⟨⟨s⟩⟩ (grownCap w s.length 0 e)).size, (bytesRow ⟨⟨s⟩⟩ (grownCap w s.length 0 e)).size + 1))
  rw [← e1]
  exact this
end Go.Eng
namespace Go.Proofs.YthpmmfapolcaiaaGreatDoor
open Go Go.Eng Go.Proofs
def be8to (n k : Nat) : Bytes := List.replicate (8 - k) 0 ++ (be8 n).drop (8 - k)
theorem be8to_set (n k : Nat) (hk : k < 8) : ((be8to n k).map byteV).set (7 - k) (byteV (UInt8.ofNat (n / 256 ^ k))) = (be8to n (k + 1)).map byteV := by
  match k, hk with
  | 0, _ => simp [be8to, be8]
  | 1, _ => simp [be8to, be8]
  | 2, _ => simp [be8to, be8]
  | 3, _ => simp [be8to, be8]
  | 4, _ => simp [be8to, be8]
  | 5, _ => simp [be8to, be8]
  | 6, _ => simp [be8to, be8]
  | 7, _ => simp [be8to, be8]
theorem be8to_len (n k : Nat) (hk : k ≤ 8) : (be8to n k).length = 8 := by
  unfold be8to be8
  rw [List.length_append, List.length_replicate, List.length_drop]
  show 8 - k + (8 - (8 - k)) = 8
  omega
end Go.Proofs.YthpmmfapolcaiaaGreatDoor

/- Plain laws of reading: numbers, texts. -/
namespace Go.Proofs.YthpmmfapolcaiaaGreatDoor
open Go Go.Eng

/-- The number that begins a text's rest behind k bytes of it; what stands behind the number. -/
def numS : Nat → Bytes → Option (Nat × Bytes)
  | _, [] => none
  | k, c :: u => if 9 < k ∨ (k = 9 ∧ 1 < c.toNat) ∨ (0 < k ∧ c.toNat = 0) then none
    else if c.toNat < 128 then some (c.toNat, u)
    else match numS (k + 1) u with
      | some (m, r) => some (c.toNat % 128 + 128 * m, r)
      | none => none
theorem u8_ofNat (c : UInt8) : UInt8.ofNat c.toNat = c := by simp
theorem numS_some : ∀ (u : Bytes) (k m : Nat) (r : Bytes), numS k u = some (m, r) → u = numB m ++ r ∧ (0 < k → 0 < m) ∧ k ≤ 9 ∧ m < 2 ^ (64 - 7 * k)
  | [], k, m, r, h => by simp [numS] at h
  | c :: u, k, m, r, h => by
    have hc := c.toNat_lt
    rw [numS] at h
    split at h
    · cases h
    · rename_i h1
      split at h
      · rename_i h2
        simp only [Option.some.injEq, Prod.mk.injEq] at h
        obtain ⟨rfl, rfl⟩ := h
        refine ⟨by rw [numB_lt h2, u8_ofNat]; rfl, by omega, by omega, ?_⟩
        by_cases hk : k = 9
        · subst hk; show _ < 2; omega
        · exact Nat.lt_of_lt_of_le h2 (Nat.pow_le_pow_right (n := 2) (i := 7) (by omega) (by omega))
      · rename_i h2
        split at h
        · rename_i m' r' h3
          simp only [Option.some.injEq, Prod.mk.injEq] at h
          obtain ⟨rfl, rfl⟩ := h
          obtain ⟨h4, h5, h6, h7⟩ := numS_some u (k + 1) m' r' h3
          have h8 := h5 (by omega)
          refine ⟨?_, by omega, by omega, ?_⟩
          · rw [numB_ge (by omega), h4, show (c.toNat % 128 + 128 * m') % 128 + 128 = c.toNat by omega, show (c.toNat % 128 + 128 * m') / 128 = m' by omega, u8_ofNat]
            rfl
          · rw [show 64 - 7 * k = (64 - 7 * (k + 1)) + 7 by omega, Nat.pow_add]
            generalize 2 ^ (64 - 7 * (k + 1)) = P at *
            omega
        · cases h
theorem numS_app : ∀ (j m k : Nat) (r : Bytes), m < 2 ^ (64 - 7 * k) → k + j = 9 → (0 < k → 0 < m) → numS k (numB m ++ r) = some (m, r) := by
  intro j
  induction j with
  | zero =>
    intro m k r hm hk h0
    obtain rfl : k = 9 := by omega
    have hm : m < 2 := hm
    rw [numB_lt (by omega)]
    simp only [List.cons_append, List.nil_append, numS]
    have e : (UInt8.ofNat m).toNat = m := by simp; omega
    rw [e, if_neg (by omega), if_pos (by omega)]
  | succ j ih =>
    intro m k r hm hk h0
    by_cases h : m < 128
    · rw [numB_lt h]
      simp only [List.cons_append, List.nil_append, numS]
      have e : (UInt8.ofNat m).toNat = m := by simp; omega
      rw [e, if_neg (by omega), if_pos (by omega)]
    · rw [numB_ge h]
      simp only [List.cons_append, numS]
      have e : (UInt8.ofNat (m % 128 + 128)).toNat = m % 128 + 128 := by simp; omega
      rw [e, if_neg (by omega), if_neg (by omega), ih (m / 128) (k + 1) r ?_ (by omega) (by omega)]
      · simp only [Option.some.injEq, Prod.mk.injEq, and_true]; omega
      · rw [show 64 - 7 * k = (64 - 7 * (k + 1)) + 7 by omega, Nat.pow_add] at hm
        generalize 2 ^ (64 - 7 * (k + 1)) = P at *
        omega
/-- The number at the text's beginning. -/
def numR (t : Bytes) : Option (Nat × Bytes) := numS 0 t
theorem numR_iff (t : Bytes) (m : Nat) (r : Bytes) : numR t = some (m, r) ↔ t = numB m ++ r ∧ m < 18446744073709551616 := by
  constructor
  · intro h
    obtain ⟨h1, -, -, h2⟩ := numS_some t 0 m r h
    exact ⟨h1, h2⟩
  · rintro ⟨rfl, h⟩
    exact numS_app 9 m 0 r h rfl (by omega)
def unzig (u : Nat) : Int := if u % 2 = 0 then (u / 2 : Nat) else -((u / 2 : Nat) : Int) - 1
theorem unzig_zig (z : Int) : unzig (zig z) = z := by
  unfold unzig zig; split <;> split <;> omega
theorem zig_unzig (u : Nat) : zig (unzig u) = u := by
  unfold unzig zig; split <;> split <;> omega
/-- A whole number at the text's beginning. -/
def intR (t : Bytes) : Option (Int × Bytes) := match numR t with
  | some (m, r) => some (unzig m, r)
  | none => none
theorem intR_iff (t : Bytes) (z : Int) (r : Bytes) : intR t = some (z, r) ↔ t = intB z ++ r ∧ zig z < 18446744073709551616 := by
  unfold intR intB
  cases h : numR t with
  | none =>
    simp only [false_iff, reduceCtorEq]
    intro hh
    rw [(numR_iff t (zig z) r).2 hh] at h; cases h
  | some x =>
    obtain ⟨m, r'⟩ := x
    obtain ⟨h1, h2⟩ := (numR_iff t m r').1 h
    simp only [Option.some.injEq, Prod.mk.injEq]
    constructor
    · rintro ⟨rfl, rfl⟩
      rw [zig_unzig]; exact ⟨h1, h2⟩
    · rintro ⟨h3, h4⟩
      rw [(numR_iff t (zig z) r).2 ⟨h3, h4⟩] at h
      simp only [Option.some.injEq, Prod.mk.injEq] at h
      obtain ⟨rfl, rfl⟩ := h
      exact ⟨unzig_zig z, rfl⟩
/-- A text at the text's beginning. -/
def textR (t : Bytes) : Option (Bytes × Bytes) := match numR t with
  | some (m, r) => if r.length < m then none else some (r.take m, r.drop m)
  | none => none
theorem textR_iff (t s r : Bytes) : textR t = some (s, r) ↔ t = textB s ++ r ∧ s.length < 18446744073709551616 := by
  unfold textR textB
  cases h : numR t with
  | none =>
    simp only [false_iff, reduceCtorEq]
    intro hh
    rw [(numR_iff t s.length (s ++ r)).2 ⟨by rw [hh.1, List.append_assoc], hh.2⟩] at h; cases h
  | some x =>
    obtain ⟨m, r'⟩ := x
    obtain ⟨h1, h2⟩ := (numR_iff t m r').1 h
    simp only
    constructor
    · intro hh
      split at hh
      · cases hh
      · simp only [Option.some.injEq, Prod.mk.injEq] at hh
        obtain ⟨rfl, rfl⟩ := hh
        have e : (r'.take m).length = m := by simp; omega
        rw [e, List.append_assoc, List.take_append_drop]
        exact ⟨h1, h2⟩
    · rintro ⟨h3, h4⟩
      rw [(numR_iff t s.length (s ++ r)).2 ⟨by rw [h3, List.append_assoc], h4⟩] at h
      simp only [Option.some.injEq, Prod.mk.injEq] at h
      obtain ⟨rfl, rfl⟩ := h
      rw [if_neg (by simp), List.take_left, List.drop_left]
end Go.Proofs.YthpmmfapolcaiaaGreatDoor

/- Package pack: the reader. -/
namespace Go.Proofs.YthpmmfapolcaiaaGreatDoor
open Go Go.Eng Go.Proofs

abbrev rdC (t : Bytes) : Obj := .cells ⟨[Str t]⟩ T_pack_Reader (0, 0)
/-- What a read of a number answers, and what is left. -/
def numO (t : Bytes) : Nat × Int × Bytes := match numR t with
  | some (m, r) => (m, 0, r)
  | none => (0, 1, t)
theorem low7 (n c k : Nat) (hn : n < 2 ^ (7 * k)) (hc : c < 256) (hk : k ≤ 9) (h9 : k = 9 → c ≤ 1) :
    orI .u64 (n : Int) (IntKind.u64.wrap (andI .u8 (c : Int) 127 * 2 ^ (7 * k))) = ((n + c % 128 * 2 ^ (7 * k) : Nat) : Int) ∧ n + c % 128 * 2 ^ (7 * k) < 18446744073709551616 := by
  have e1 : andI .u8 (c : Int) 127 = ((c % 128 : Nat) : Int) := by
    have h := andU .u8 rfl c 127 hc (by decide)
    rw [show ((127 : Nat) : Int) = 127 from rfl] at h
    rw [h, show (127 : Nat) = 2 ^ 7 - 1 by rfl, Nat.and_two_pow_sub_one_eq_mod]
  have hb : n + c % 128 * 2 ^ (7 * k) < 18446744073709551616 := by
    have hm : c % 128 < 128 := Nat.mod_lt _ (by omega)
    by_cases h : k = 9
    · subst h
      have := h9 rfl
      have h1 : c % 128 ≤ 1 := by omega
      have h2 : c % 128 * 2 ^ (7 * 9) ≤ 1 * 2 ^ (7 * 9) := Nat.mul_le_mul_right _ h1
      omega
    · have h3 : 2 ^ (7 * k) ≤ 2 ^ (7 * 8) := Nat.pow_le_pow_right (by omega) (by omega)
      have h4 : c % 128 * 2 ^ (7 * k) ≤ 127 * 2 ^ (7 * k) := Nat.mul_le_mul_right _ (by omega)
      omega
  refine ⟨?_, hb⟩
  have e2 : ((c % 128 : Nat) : Int) * 2 ^ (7 * k) = ((c % 128 * 2 ^ (7 * k) : Nat) : Int) := by simp
  have e3 : c % 128 * 2 ^ (7 * k) % 2 ^ IntKind.u64.bits = c % 128 * 2 ^ (7 * k) := Nat.mod_eq_of_lt (show c % 128 * 2 ^ (7 * k) < 18446744073709551616 by omega)
  rw [e1, e2, wrapU .u64 rfl, e3, orU .u64 rfl _ _ (show n < 18446744073709551616 by omega) (show _ < 18446744073709551616 by omega), Nat.or_comm, or_add _ _ _ hn, Nat.add_comm]
def numJ (t : Bytes) (k n : Nat) : Prop := k ≤ 10 ∧ k ≤ t.length ∧ n < 2 ^ (7 * k) ∧ numS 0 t = match numS k (t.drop k) with
  | some (m, r) => some (n + m * 2 ^ (7 * k), r)
  | none => none
theorem numJ_fail {t : Bytes} {k n : Nat} (h : numJ t k n) (hf : numS k (t.drop k) = none) : numO t = (0, 1, t) := by
  unfold numO numR
  rw [h.2.2.2, hf]
theorem numS_stop {t : Bytes} {k : Nat} (hk : ¬ (k < 10 ∧ k < t.length)) : numS k (t.drop k) = none := by
  cases h : t.drop k with
  | nil => rfl
  | cons c u =>
    have : k < t.length := by
      have := congrArg List.length h
      simp at this; omega
    unfold numS
    rw [if_pos (by omega)]
theorem numS_at {t : Bytes} {k : Nat} (hk : k < t.length) : numS k (t.drop k) = if 9 < k ∨ (k = 9 ∧ 1 < t[k].toNat) ∨ (0 < k ∧ t[k].toNat = 0) then none
    else if t[k].toNat < 128 then some (t[k].toNat, t.drop (k + 1))
    else match numS (k + 1) (t.drop (k + 1)) with
      | some (m, r) => some (t[k].toNat % 128 + 128 * m, r)
      | none => none := by
  rw [List.drop_eq_getElem_cons hk, numS]
  all_goals rfl
theorem numJ_done {t : Bytes} {k n : Nat} (h : numJ t k n) (hk : k < t.length) (h1 : ¬ (9 < k ∨ (k = 9 ∧ 1 < t[k].toNat) ∨ (0 < k ∧ t[k].toNat = 0))) (h2 : t[k].toNat < 128) :
    numO t = (n + t[k].toNat % 128 * 2 ^ (7 * k), 0, t.drop (k + 1)) := by
  unfold numO numR
  rw [h.2.2.2, numS_at hk, if_neg h1, if_pos h2, Nat.mod_eq_of_lt h2]
theorem numJ_next {t : Bytes} {k n : Nat} (h : numJ t k n) (hk : k < t.length) (h1 : ¬ (9 < k ∨ (k = 9 ∧ 1 < t[k].toNat) ∨ (0 < k ∧ t[k].toNat = 0))) (h2 : ¬ t[k].toNat < 128) :
    numJ t (k + 1) (n + t[k].toNat % 128 * 2 ^ (7 * k)) := by
  obtain ⟨h3, h4, h5, h6⟩ := h
  refine ⟨by omega, by omega, ?_, ?_⟩
  · rw [show 7 * (k + 1) = 7 * k + 7 by omega, Nat.pow_add]
    have h4 : t[k].toNat % 128 * 2 ^ (7 * k) ≤ 127 * 2 ^ (7 * k) := Nat.mul_le_mul_right _ (by omega)
    generalize 2 ^ (7 * k) = P at *
    omega
  · rw [h6, numS_at hk, if_neg h1, if_neg h2]
    cases numS (k + 1) (t.drop (k + 1)) with
    | none => rfl
    | some x =>
      obtain ⟨m, r⟩ := x
      simp only [Option.some.injEq, Prod.mk.injEq, and_true]
      rw [show 7 * (k + 1) = 7 * k + 7 by omega, Nat.pow_add, Nat.add_mul, Nat.add_assoc]
      congr 2
      rw [show 2 ^ (7 * k) * 2 ^ 7 = 128 * 2 ^ (7 * k) by omega, Nat.mul_comm 128 m, Nat.mul_assoc]
theorem low7' (n c k : Nat) (hn : n < 2 ^ (7 * k)) (hc : c < 256) (hk : k ≤ 9) (h9 : k = 9 → c ≤ 1) :
    orI .u64 (n : Int) (IntKind.u64.wrap (IntKind.u64.wrap (andI .u8 (c : Int) 127) * 2 ^ min (7 * (k : Int)).toNat IntKind.u64.bits)) = ((n + c % 128 * 2 ^ (7 * k) : Nat) : Int) := by
  have h := (low7 n c k hn hc hk h9).1
  have e1 : andI .u8 (c : Int) 127 = ((c % 128 : Nat) : Int) := by
    have h := andU .u8 rfl c 127 hc (by decide)
    rw [show ((127 : Nat) : Int) = 127 from rfl] at h
    rw [h, show (127 : Nat) = 2 ^ 7 - 1 by rfl, Nat.and_two_pow_sub_one_eq_mod]
  have e2 : IntKind.u64.wrap (((c % 128 : Nat) : Nat) : Int) = ((c % 128 : Nat) : Int) := by
    rw [wrapU .u64 rfl]; congr 1; exact Nat.mod_eq_of_lt (by show _ < 18446744073709551616; omega)
  have e3 : min (7 * (k : Int)).toNat IntKind.u64.bits = 7 * k := by show min _ 64 = _; omega
  rw [e1] at h ⊢
  rw [e2, e3]; exact h
set_option maxHeartbeats 4000000 in
theorem RNum_spec {w : World} {b : Nat} {t : Bytes} (hh : Holds [(b, rdC t)] w) (ht : t.length ≤ 70368744177664) :
    Cl Tryz.prog f_pack_Reader_Num [ptr b] w fun v w' => v = .tuple ⟨[.int .u64 (numO t).1, .int .i64 (numO t).2.1]⟩ ∧ St w [b] [(b, rdC (numO t).2.2)] w' := by
  have hS : St w [b] [(b, rdC t)] w := St.enter hh
  refine en_pack_Reader_Num rfl ?_
  repeat (first | refine SemW.run tblOk ?_ | refine jA (by omega) ?_ | refine jB (by omega) ?_ | refine jC (by omega) ?_ | refine jD (by omega) ?_ | refine jE rfl ?_ | refine jF (by omega) ?_ | (refine jG ?_; first | with_reducible (first | refine jH ?_ | refine jI ?_ | refine jJ ?_ | refine jK ?_ | refine jL ?_) | refine jM (by omega) ?_ | refine jN (by omega) ?_ | with_reducible refine jM rfl ?_ | refine jM (by assumption) ?_ | refine jN (by assumption) ?_ | refine jM (by decide) ?_ | refine jN (by decide) ?_) | refine jF (ptr_ok tblOk rfl rfl) ?_ | refine jO (fun _ => by kernel_rfl) ?_ | refine jF (by decide) ?_)
  refine SemW.loop (fun x : Nat × Nat => [(0, ptr b), (4, .int .u64 x.2), (5, .int .i64 x.1)])
    (fun x w' => numJ t x.1 x.2 ∧ St w [b] [(b, rdC t)] w') (fun x => 10 - x.1) (0, 0)
    ⟨rfl, rfl, rfl, trivial⟩ ⟨⟨by omega, by omega, by simp, by simp only [List.drop_zero]; cases numS 0 t <;> simp⟩, hS⟩ ?_
  rintro ⟨k, n⟩ w1 ⟨hJ, hS⟩
  simp only at hJ hS ⊢
  have hkk := hJ.1
  have hkl := hJ.2.1
  by_cases hk : k < 10 ∧ k < t.length
  · obtain ⟨hk10, hkt⟩ := hk
    have hmin : ((k : Int) < min 10 (t.length : Int)) := by omega
    repeat (first | refine SemW.run tblOk ?_ | refine jA (by omega) ?_ | refine jB (by omega) ?_ | refine jC (by omega) ?_ | refine jD (by omega) ?_ | refine jE rfl ?_ | refine jF (by omega) ?_ | (refine jG ?_; first | with_reducible (first | refine jH ?_ | refine jI ?_ | refine jJ ?_ | refine jK ?_ | refine jL ?_) | refine jM (by omega) ?_ | refine jN (by omega) ?_ | with_reducible refine jM rfl ?_ | refine jM (by assumption) ?_ | refine jN (by assumption) ?_ | refine jM (by decide) ?_ | refine jN (by decide) ?_) | refine jF (ptr_ok tblOk rfl rfl) ?_ | refine jO (fun _ => by kernel_rfl) ?_ | refine jF (by decide) ?_ | refine hS.ld rfl ?_ | refine hS.ldn rfl ?_ | (refine hS.st rfl rfl ?_; intro _ hS))
    obtain ⟨c, hc⟩ : ∃ c, c = t.getD ((k : Int)).toNat 0 := ⟨_, rfl⟩
    have hct : c = t[k] := by rw [hc]; simp [hkt]
    rw [← hc]
    have hclt := c.toNat_lt
    by_cases h9 : k = 9
    · by_cases h1 : 1 < c.toNat
      · repeat (first | refine SemW.run tblOk ?_ | refine jA (by omega) ?_ | refine jB (by omega) ?_ | refine jC (by omega) ?_ | refine jD (by omega) ?_ | refine jE rfl ?_ | refine jF (by omega) ?_ | (refine jG ?_; first | with_reducible (first | refine jH ?_ | refine jI ?_ | refine jJ ?_ | refine jK ?_ | refine jL ?_) | refine jM (by omega) ?_ | refine jN (by omega) ?_ | with_reducible refine jM rfl ?_ | refine jM (by assumption) ?_ | refine jN (by assumption) ?_ | refine jM (by decide) ?_ | refine jN (by decide) ?_) | refine jF (ptr_ok tblOk rfl rfl) ?_ | refine jO (fun _ => by kernel_rfl) ?_ | refine jF (by decide) ?_ | refine hS.ld rfl ?_ | refine hS.ldn rfl ?_ | (refine hS.st rfl rfl ?_; intro _ hS))
        rw [numJ_fail hJ (by rw [numS_at hkt, if_pos (by rw [← hct]; omega)])]
        exact ⟨rfl, hS⟩
      · by_cases hz : c.toNat = 0
        · repeat (first | refine SemW.run tblOk ?_ | refine jA (by omega) ?_ | refine jB (by omega) ?_ | refine jC (by omega) ?_ | refine jD (by omega) ?_ | refine jE rfl ?_ | refine jF (by omega) ?_ | (refine jG ?_; first | with_reducible (first | refine jH ?_ | refine jI ?_ | refine jJ ?_ | refine jK ?_ | refine jL ?_) | refine jM (by omega) ?_ | refine jN (by omega) ?_ | with_reducible refine jM rfl ?_ | refine jM (by assumption) ?_ | refine jN (by assumption) ?_ | refine jM (by decide) ?_ | refine jN (by decide) ?_) | refine jF (ptr_ok tblOk rfl rfl) ?_ | refine jO (fun _ => by kernel_rfl) ?_ | refine jF (by decide) ?_ | refine hS.ld rfl ?_ | refine hS.ldn rfl ?_ | (refine hS.st rfl rfl ?_; intro _ hS))
          rw [numJ_fail hJ (by rw [numS_at hkt, if_pos (by rw [← hct]; omega)])]
          exact ⟨rfl, hS⟩
        · have hl7 := low7' n c.toNat k hJ.2.2.1 c.toNat_lt (by omega) (by omega)
          have hnb : ¬ (9 < k ∨ (k = 9 ∧ 1 < t[k].toNat) ∨ (0 < k ∧ t[k].toNat = 0)) := by rw [← hct]; omega
          have ek : ((k : Int) + 1).toNat = k + 1 := by omega
          by_cases h128 : c.toNat < 128
          · have hdn := numJ_done hJ hkt hnb (by rw [← hct]; exact h128)
            rw [← hct] at hdn
            repeat (first | refine SemW.run tblOk ?_ | refine jA (by omega) ?_ | refine jB (by omega) ?_ | refine jC (by omega) ?_ | refine jD (by omega) ?_ | refine jE rfl ?_ | refine jF (by omega) ?_ | (refine jG ?_; first | with_reducible (first | refine jH ?_ | refine jI ?_ | refine jJ ?_ | refine jK ?_ | refine jL ?_) | refine jM (by omega) ?_ | refine jN (by omega) ?_ | with_reducible refine jM rfl ?_ | refine jM (by assumption) ?_ | refine jN (by assumption) ?_ | refine jM (by decide) ?_ | refine jN (by decide) ?_) | refine jF (ptr_ok tblOk rfl rfl) ?_ | refine jO (fun _ => by kernel_rfl) ?_ | refine jF (by decide) ?_ | refine hS.ld rfl ?_ | refine hS.ldn rfl ?_ | (refine hS.st rfl rfl ?_; intro _ hS))
            rw [hdn]
            rw [ek] at hS
            exact ⟨congrArg (fun z => Value.tuple ⟨[.int .u64 z, .int .i64 0]⟩) hl7, hS⟩
          · have hnx := numJ_next hJ hkt hnb (by rw [← hct]; exact h128)
            rw [← hct] at hnx
            first
            | (exfalso; omega)
            | (repeat (first | refine SemW.run tblOk ?_ | refine jA (by omega) ?_ | refine jB (by omega) ?_ | refine jC (by omega) ?_ | refine jD (by omega) ?_ | refine jE rfl ?_ | refine jF (by omega) ?_ | (refine jG ?_; first | with_reducible (first | refine jH ?_ | refine jI ?_ | refine jJ ?_ | refine jK ?_ | refine jL ?_) | refine jM (by omega) ?_ | refine jN (by omega) ?_ | with_reducible refine jM rfl ?_ | refine jM (by assumption) ?_ | refine jN (by assumption) ?_ | refine jM (by decide) ?_ | refine jN (by decide) ?_) | refine jF (ptr_ok tblOk rfl rfl) ?_ | refine jO (fun _ => by kernel_rfl) ?_ | refine jF (by decide) ?_ | refine hS.ld rfl ?_ | refine hS.ldn rfl ?_ | (refine hS.st rfl rfl ?_; intro _ hS))
               exact ⟨(k + 1, n + c.toNat % 128 * 2 ^ (7 * k)), ⟨rfl, congrArg (Value.int .u64) hl7, rfl, trivial⟩, ⟨hnx, hS⟩, by simp only; omega⟩)
    · by_cases h0 : 0 < k
      · by_cases hz : c.toNat = 0
        · repeat (first | refine SemW.run tblOk ?_ | refine jA (by omega) ?_ | refine jB (by omega) ?_ | refine jC (by omega) ?_ | refine jD (by omega) ?_ | refine jE rfl ?_ | refine jF (by omega) ?_ | (refine jG ?_; first | with_reducible (first | refine jH ?_ | refine jI ?_ | refine jJ ?_ | refine jK ?_ | refine jL ?_) | refine jM (by omega) ?_ | refine jN (by omega) ?_ | with_reducible refine jM rfl ?_ | refine jM (by assumption) ?_ | refine jN (by assumption) ?_ | refine jM (by decide) ?_ | refine jN (by decide) ?_) | refine jF (ptr_ok tblOk rfl rfl) ?_ | refine jO (fun _ => by kernel_rfl) ?_ | refine jF (by decide) ?_ | refine hS.ld rfl ?_ | refine hS.ldn rfl ?_ | (refine hS.st rfl rfl ?_; intro _ hS))
          rw [numJ_fail hJ (by rw [numS_at hkt, if_pos (by rw [← hct]; omega)])]
          exact ⟨rfl, hS⟩
        · have hl7 := low7' n c.toNat k hJ.2.2.1 c.toNat_lt (by omega) (by omega)
          have hnb : ¬ (9 < k ∨ (k = 9 ∧ 1 < t[k].toNat) ∨ (0 < k ∧ t[k].toNat = 0)) := by rw [← hct]; omega
          have ek : ((k : Int) + 1).toNat = k + 1 := by omega
          by_cases h128 : c.toNat < 128
          · have hdn := numJ_done hJ hkt hnb (by rw [← hct]; exact h128)
            rw [← hct] at hdn
            repeat (first | refine SemW.run tblOk ?_ | refine jA (by omega) ?_ | refine jB (by omega) ?_ | refine jC (by omega) ?_ | refine jD (by omega) ?_ | refine jE rfl ?_ | refine jF (by omega) ?_ | (refine jG ?_; first | with_reducible (first | refine jH ?_ | refine jI ?_ | refine jJ ?_ | refine jK ?_ | refine jL ?_) | refine jM (by omega) ?_ | refine jN (by omega) ?_ | with_reducible refine jM rfl ?_ | refine jM (by assumption) ?_ | refine jN (by assumption) ?_ | refine jM (by decide) ?_ | refine jN (by decide) ?_) | refine jF (ptr_ok tblOk rfl rfl) ?_ | refine jO (fun _ => by kernel_rfl) ?_ | refine jF (by decide) ?_ | refine hS.ld rfl ?_ | refine hS.ldn rfl ?_ | (refine hS.st rfl rfl ?_; intro _ hS))
            rw [hdn]
            rw [ek] at hS
            exact ⟨congrArg (fun z => Value.tuple ⟨[.int .u64 z, .int .i64 0]⟩) hl7, hS⟩
          · have hnx := numJ_next hJ hkt hnb (by rw [← hct]; exact h128)
            rw [← hct] at hnx
            first
            | (exfalso; omega)
            | (repeat (first | refine SemW.run tblOk ?_ | refine jA (by omega) ?_ | refine jB (by omega) ?_ | refine jC (by omega) ?_ | refine jD (by omega) ?_ | refine jE rfl ?_ | refine jF (by omega) ?_ | (refine jG ?_; first | with_reducible (first | refine jH ?_ | refine jI ?_ | refine jJ ?_ | refine jK ?_ | refine jL ?_) | refine jM (by omega) ?_ | refine jN (by omega) ?_ | with_reducible refine jM rfl ?_ | refine jM (by assumption) ?_ | refine jN (by assumption) ?_ | refine jM (by decide) ?_ | refine jN (by decide) ?_) | refine jF (ptr_ok tblOk rfl rfl) ?_ | refine jO (fun _ => by kernel_rfl) ?_ | refine jF (by decide) ?_ | refine hS.ld rfl ?_ | refine hS.ldn rfl ?_ | (refine hS.st rfl rfl ?_; intro _ hS))
               exact ⟨(k + 1, n + c.toNat % 128 * 2 ^ (7 * k)), ⟨rfl, congrArg (Value.int .u64) hl7, rfl, trivial⟩, ⟨hnx, hS⟩, by simp only; omega⟩)
      · have hl7 := low7' n c.toNat k hJ.2.2.1 c.toNat_lt (by omega) (by omega)
        have hnb : ¬ (9 < k ∨ (k = 9 ∧ 1 < t[k].toNat) ∨ (0 < k ∧ t[k].toNat = 0)) := by rw [← hct]; omega
        have ek : ((k : Int) + 1).toNat = k + 1 := by omega
        by_cases h128 : c.toNat < 128
        · have hdn := numJ_done hJ hkt hnb (by rw [← hct]; exact h128)
          rw [← hct] at hdn
          repeat (first | refine SemW.run tblOk ?_ | refine jA (by omega) ?_ | refine jB (by omega) ?_ | refine jC (by omega) ?_ | refine jD (by omega) ?_ | refine jE rfl ?_ | refine jF (by omega) ?_ | (refine jG ?_; first | with_reducible (first | refine jH ?_ | refine jI ?_ | refine jJ ?_ | refine jK ?_ | refine jL ?_) | refine jM (by omega) ?_ | refine jN (by omega) ?_ | with_reducible refine jM rfl ?_ | refine jM (by assumption) ?_ | refine jN (by assumption) ?_ | refine jM (by decide) ?_ | refine jN (by decide) ?_) | refine jF (ptr_ok tblOk rfl rfl) ?_ | refine jO (fun _ => by kernel_rfl) ?_ | refine jF (by decide) ?_ | refine hS.ld rfl ?_ | refine hS.ldn rfl ?_ | (refine hS.st rfl rfl ?_; intro _ hS))
          rw [hdn]
          rw [ek] at hS
          exact ⟨congrArg (fun z => Value.tuple ⟨[.int .u64 z, .int .i64 0]⟩) hl7, hS⟩
        · have hnx := numJ_next hJ hkt hnb (by rw [← hct]; exact h128)
          rw [← hct] at hnx
          first
          | (exfalso; omega)
          | (repeat (first | refine SemW.run tblOk ?_ | refine jA (by omega) ?_ | refine jB (by omega) ?_ | refine jC (by omega) ?_ | refine jD (by omega) ?_ | refine jE rfl ?_ | refine jF (by omega) ?_ | (refine jG ?_; first | with_reducible (first | refine jH ?_ | refine jI ?_ | refine jJ ?_ | refine jK ?_ | refine jL ?_) | refine jM (by omega) ?_ | refine jN (by omega) ?_ | with_reducible refine jM rfl ?_ | refine jM (by assumption) ?_ | refine jN (by assumption) ?_ | refine jM (by decide) ?_ | refine jN (by decide) ?_) | refine jF (ptr_ok tblOk rfl rfl) ?_ | refine jO (fun _ => by kernel_rfl) ?_ | refine jF (by decide) ?_ | refine hS.ld rfl ?_ | refine hS.ldn rfl ?_ | (refine hS.st rfl rfl ?_; intro _ hS))
             exact ⟨(k + 1, n + c.toNat % 128 * 2 ^ (7 * k)), ⟨rfl, congrArg (Value.int .u64) hl7, rfl, trivial⟩, ⟨hnx, hS⟩, by simp only; omega⟩)
  · have hmin : ¬ ((k : Int) < min 10 (t.length : Int)) := by omega
    repeat (first | refine SemW.run tblOk ?_ | refine jA (by omega) ?_ | refine jB (by omega) ?_ | refine jC (by omega) ?_ | refine jD (by omega) ?_ | refine jE rfl ?_ | refine jF (by omega) ?_ | (refine jG ?_; first | with_reducible (first | refine jH ?_ | refine jI ?_ | refine jJ ?_ | refine jK ?_ | refine jL ?_) | refine jM (by omega) ?_ | refine jN (by omega) ?_ | with_reducible refine jM rfl ?_ | refine jM (by assumption) ?_ | refine jN (by assumption) ?_ | refine jM (by decide) ?_ | refine jN (by decide) ?_) | refine jF (ptr_ok tblOk rfl rfl) ?_ | refine jO (fun _ => by kernel_rfl) ?_ | refine jF (by decide) ?_ | refine hS.ld rfl ?_ | refine hS.ldn rfl ?_ | (refine hS.st rfl rfl ?_; intro _ hS))
    rw [numJ_fail hJ (numS_stop hk)]
    exact ⟨rfl, hS⟩
def intO (t : Bytes) : Int × Int × Bytes := (unzig (numO t).1, (numO t).2)
theorem numO_lt (t : Bytes) : (numO t).1 < 18446744073709551616 := by
  unfold numO
  cases h : numR t with
  | none => show 0 < 18446744073709551616; omega
  | some x => obtain ⟨m, r⟩ := x; exact ((numR_iff t m r).1 h).2
theorem numO_len (t : Bytes) : (numO t).2.2.length ≤ t.length := by
  unfold numO
  cases h : numR t with
  | none => exact Nat.le_refl _
  | some x =>
    obtain ⟨m, r⟩ := x
    have := congrArg List.length ((numR_iff t m r).1 h).1
    simp only [List.length_append] at this
    show r.length ≤ t.length
    omega
theorem unz_eq (u : Nat) (h : u < 18446744073709551616) : xorI .i64 ((u / 2 : Nat) : Int) (0 - ((u % 2 : Nat) : Int)) = unzig u := by
  show IntKind.i64.wrap (((BitVec.ofInt 64 ((u / 2 : Nat) : Int) ^^^ BitVec.ofInt 64 (0 - ((u % 2 : Nat) : Int))).toNat : Nat) : Int) = _
  have e1 : BitVec.ofInt 64 ((u / 2 : Nat) : Int) = BitVec.ofNat 64 (u / 2) := BitVec.ofInt_natCast ..
  unfold unzig
  by_cases h2 : u % 2 = 0
  · rw [if_pos h2, h2]
    have e2 : BitVec.ofInt 64 (0 - ((0 : Nat) : Int)) = 0#64 := by decide
    rw [e1, e2, BitVec.xor_zero, BitVec.toNat_ofNat, Nat.mod_eq_of_lt (by omega)]
    unfold IntKind.wrap; simp only [IntKind.signed, IntKind.bits]; simp; omega
  · rw [if_neg h2, show u % 2 = 1 by omega]
    have e2 : BitVec.ofInt 64 (0 - ((1 : Nat) : Int)) = BitVec.allOnes 64 := by decide
    rw [e1, e2, BitVec.xor_allOnes, BitVec.toNat_not, BitVec.toNat_ofNat, Nat.mod_eq_of_lt (by omega)]
    unfold IntKind.wrap; simp only [IntKind.signed, IntKind.bits]; simp; omega
set_option maxHeartbeats 1000000 in
theorem RInt_spec {w : World} {b : Nat} {t : Bytes} (hh : Holds [(b, rdC t)] w) (ht : t.length ≤ 70368744177664) :
    Cl Tryz.prog f_pack_Reader_Int [ptr b] w fun v w' => v = .tuple ⟨[.int .i64 (intO t).1, .int .i64 (intO t).2.1]⟩ ∧ St w [b] [(b, rdC (intO t).2.2)] w' := by
  refine en_pack_Reader_Int rfl ?_
  repeat (first | refine SemW.run tblOk ?_ | refine jA (by omega) ?_ | refine jB (by omega) ?_ | refine jC (by omega) ?_ | refine jD (by omega) ?_ | refine jE rfl ?_ | refine jF (by omega) ?_ | (refine jG ?_; first | with_reducible (first | refine jH ?_ | refine jI ?_ | refine jJ ?_ | refine jK ?_ | refine jL ?_) | refine jM (by omega) ?_ | refine jN (by omega) ?_ | with_reducible refine jM rfl ?_ | refine jM (by assumption) ?_ | refine jN (by assumption) ?_ | refine jM (by decide) ?_ | refine jN (by decide) ?_) | refine jF (ptr_ok tblOk rfl rfl) ?_ | refine jO (fun _ => by kernel_rfl) ?_ | refine jF (by decide) ?_)
  refine Cl.mono (RNum_spec hh ht) ?_
  rintro _ w1 ⟨rfl, hS⟩
  unfold intO
  have hlt := numO_lt t
  generalize numO t = x at hS hlt ⊢
  obtain ⟨u, e, r⟩ := x
  simp only at hS hlt ⊢
  have e1 : (u : Int).fdiv (2 ^ min (Int.toNat 1) IntKind.u64.bits) = ((u / 2 : Nat) : Int) := by
    show (u : Int).fdiv (2 ^ 1) = _
    rw [fdivP]
  have e2 : andI .u64 (u : Int) 1 = ((u % 2 : Nat) : Int) := by
    have h := andU .u64 rfl u 1 hlt (by decide)
    rw [show ((1 : Nat) : Int) = 1 from rfl] at h
    rw [h, show (1 : Nat) = 2 ^ 1 - 1 by rfl, Nat.and_two_pow_sub_one_eq_mod]
  have hz := unz_eq u hlt
  repeat (first | refine SemW.run tblOk ?_ | refine jA (by omega) ?_ | refine jB (by omega) ?_ | refine jC (by omega) ?_ | refine jD (by omega) ?_ | refine jE rfl ?_ | refine jF (by omega) ?_ | (refine jG ?_; first | with_reducible (first | refine jH ?_ | refine jI ?_ | refine jJ ?_ | refine jK ?_ | refine jL ?_) | refine jM (by omega) ?_ | refine jN (by omega) ?_ | with_reducible refine jM rfl ?_ | refine jM (by assumption) ?_ | refine jN (by assumption) ?_ | refine jM (by decide) ?_ | refine jN (by decide) ?_) | refine jF (ptr_ok tblOk rfl rfl) ?_ | refine jO (fun _ => by kernel_rfl) ?_ | refine jF (by decide) ?_)
  rw [e1]
  repeat (first | refine SemW.run tblOk ?_ | refine jA (by omega) ?_ | refine jB (by omega) ?_ | refine jC (by omega) ?_ | refine jD (by omega) ?_ | refine jE rfl ?_ | refine jF (by omega) ?_ | (refine jG ?_; first | with_reducible (first | refine jH ?_ | refine jI ?_ | refine jJ ?_ | refine jK ?_ | refine jL ?_) | refine jM (by omega) ?_ | refine jN (by omega) ?_ | with_reducible refine jM rfl ?_ | refine jM (by assumption) ?_ | refine jN (by assumption) ?_ | refine jM (by decide) ?_ | refine jN (by decide) ?_) | refine jF (ptr_ok tblOk rfl rfl) ?_ | refine jO (fun _ => by kernel_rfl) ?_ | refine jF (by decide) ?_)
  rw [e2]
  repeat (first | refine SemW.run tblOk ?_ | refine jA (by omega) ?_ | refine jB (by omega) ?_ | refine jC (by omega) ?_ | refine jD (by omega) ?_ | refine jE rfl ?_ | refine jF (by omega) ?_ | (refine jG ?_; first | with_reducible (first | refine jH ?_ | refine jI ?_ | refine jJ ?_ | refine jK ?_ | refine jL ?_) | refine jM (by omega) ?_ | refine jN (by omega) ?_ | with_reducible refine jM rfl ?_ | refine jM (by assumption) ?_ | refine jN (by assumption) ?_ | refine jM (by decide) ?_ | refine jN (by decide) ?_) | refine jF (ptr_ok tblOk rfl rfl) ?_ | refine jO (fun _ => by kernel_rfl) ?_ | refine jF (by decide) ?_)
  exact ⟨congrArg (fun z => Value.tuple ⟨[.int .i64 z, .int .i64 e]⟩) hz, hS⟩
theorem RDone_spec {w : World} {b : Nat} {t : Bytes} (hh : Holds [(b, rdC t)] w) :
    Cl Tryz.prog f_pack_Reader_Done [ptr b] w fun v w' => v = .bool (decide (t = [])) ∧ St w [] [] w' := by
  have hS : St w [b] [(b, rdC t)] w := St.enter hh
  refine en_pack_Reader_Done rfl ?_
  repeat (first | refine SemW.run tblOk ?_ | refine jA (by omega) ?_ | refine jB (by omega) ?_ | refine jC (by omega) ?_ | refine jD (by omega) ?_ | refine jE rfl ?_ | refine jF (by omega) ?_ | (refine jG ?_; first | with_reducible (first | refine jH ?_ | refine jI ?_ | refine jJ ?_ | refine jK ?_ | refine jL ?_) | refine jM (by omega) ?_ | refine jN (by omega) ?_ | with_reducible refine jM rfl ?_ | refine jM (by assumption) ?_ | refine jN (by assumption) ?_ | refine jM (by decide) ?_ | refine jN (by decide) ?_) | refine jF (ptr_ok tblOk rfl rfl) ?_ | refine jO (fun _ => by kernel_rfl) ?_ | refine jF (by decide) ?_ | refine hS.ld rfl ?_ | refine hS.ldn rfl ?_ | (refine hS.st rfl rfl ?_; intro _ hS))
  exact ⟨rfl, St.start w⟩
theorem PRead_spec {w : World} {t : Bytes} : Cl Tryz.prog f_pack_Read [Str t] w fun v w' => ∃ b, v = ptr b ∧ St w [] [(b, rdC t)] w' := by
  have hS := St.start w
  refine en_pack_Read rfl ?_
  repeat (first | refine SemW.run tblOk ?_ | refine jA (by omega) ?_ | refine jB (by omega) ?_ | refine jC (by omega) ?_ | refine jD (by omega) ?_ | refine jE rfl ?_ | refine jF (by omega) ?_ | (refine jG ?_; first | with_reducible (first | refine jH ?_ | refine jI ?_ | refine jJ ?_ | refine jK ?_ | refine jL ?_) | refine jM (by omega) ?_ | refine jN (by omega) ?_ | with_reducible refine jM rfl ?_ | refine jM (by assumption) ?_ | refine jN (by assumption) ?_ | refine jM (by decide) ?_ | refine jN (by decide) ?_) | refine jF (ptr_ok tblOk rfl rfl) ?_ | refine jO (fun _ => by kernel_rfl) ?_ | refine jF (by decide) ?_)
  refine hS.al ?_
  intro b w1 _ hS
  repeat (first | refine SemW.run tblOk ?_ | refine jA (by omega) ?_ | refine jB (by omega) ?_ | refine jC (by omega) ?_ | refine jD (by omega) ?_ | refine jE rfl ?_ | refine jF (by omega) ?_ | (refine jG ?_; first | with_reducible (first | refine jH ?_ | refine jI ?_ | refine jJ ?_ | refine jK ?_ | refine jL ?_) | refine jM (by omega) ?_ | refine jN (by omega) ?_ | with_reducible refine jM rfl ?_ | refine jM (by assumption) ?_ | refine jN (by assumption) ?_ | refine jM (by decide) ?_ | refine jN (by decide) ?_) | refine jF (ptr_ok tblOk rfl rfl) ?_ | refine jO (fun _ => by kernel_rfl) ?_ | refine jF (by decide) ?_)
  exact ⟨b, rfl, hS⟩
end Go.Proofs.YthpmmfapolcaiaaGreatDoor

/- The document's numbers and texts (tarmacref01). -/
namespace Go.Proofs.YthpmmfapolcaiaaGreatDoor
open Go Go.Eng Go.Proofs

theorem tmodN (a b : Nat) : ((a : Int).tmod (b : Int)) = ((a % b : Nat) : Int) := rfl
theorem tdivN (a b : Nat) : ((a : Int).tdiv (b : Int)) = ((a / b : Nat) : Int) := rfl
theorem numB_len10' (n : Nat) (h : n < 18446744073709551616) : (numB n).length ≤ 10 := numB_len10 n (by omega)
set_option maxHeartbeats 1000000 in
theorem Fold_spec {w : World} (z : Int) (hz : i64ok z) : Cl Tryz.prog f_tarmacref01_Fold [.int .i64 z] w fun v w' => v = u64V (zig z) ∧ St w [] [] w' := by
  have hS := St.start w
  unfold i64ok at hz
  refine en_tarmacref01_Fold rfl ?_
  unfold u64V zig
  by_cases h0 : 0 ≤ z
  · rw [if_pos h0]
    repeat (first | refine SemW.run tblOk ?_ | refine jA (by omega) ?_ | refine jB (by omega) ?_ | refine jC (by omega) ?_ | refine jD (by omega) ?_ | refine jE rfl ?_ | refine jF (by omega) ?_ | (refine jG ?_; first | with_reducible (first | refine jH ?_ | refine jI ?_ | refine jJ ?_ | refine jK ?_ | refine jL ?_) | refine jM (by omega) ?_ | refine jN (by omega) ?_ | with_reducible refine jM rfl ?_ | refine jM (by assumption) ?_ | refine jN (by assumption) ?_ | refine jM (by decide) ?_ | refine jN (by decide) ?_) | refine jF (ptr_ok tblOk rfl rfl) ?_ | refine jO (fun _ => by kernel_rfl) ?_ | refine jF (by decide) ?_)
    exact ⟨congrArg (Value.int .u64) (by omega), hS⟩
  · rw [if_neg h0]
    repeat (first | refine SemW.run tblOk ?_ | refine jA (by omega) ?_ | refine jB (by omega) ?_ | refine jC (by omega) ?_ | refine jD (by omega) ?_ | refine jE rfl ?_ | refine jF (by omega) ?_ | (refine jG ?_; first | with_reducible (first | refine jH ?_ | refine jI ?_ | refine jJ ?_ | refine jK ?_ | refine jL ?_) | refine jM (by omega) ?_ | refine jN (by omega) ?_ | with_reducible refine jM rfl ?_ | refine jM (by assumption) ?_ | refine jN (by assumption) ?_ | refine jM (by decide) ?_ | refine jN (by decide) ?_) | refine jF (ptr_ok tblOk rfl rfl) ?_ | refine jO (fun _ => by kernel_rfl) ?_ | refine jF (by decide) ?_)
    exact ⟨congrArg (Value.int .u64) (by omega), hS⟩
set_option maxHeartbeats 1000000 in
theorem NumE_spec {w : World} (n0 : Nat) (hn0 : n0 < 18446744073709551616) : Cl Tryz.prog f_tarmacref01_Num [u64V n0] w fun v w' => v = Str (numB n0) ∧ St w [] [] w' := by
  have hS := St.start w
  unfold u64V
  refine en_tarmacref01_Num rfl ?_
  have hlen0 := numB_len10' n0 hn0
  repeat (first | refine SemW.run tblOk ?_ | refine jA (by omega) ?_ | refine jB (by omega) ?_ | refine jC (by omega) ?_ | refine jD (by omega) ?_ | refine jE rfl ?_ | refine jF (by omega) ?_ | (refine jG ?_; first | with_reducible (first | refine jH ?_ | refine jI ?_ | refine jJ ?_ | refine jK ?_ | refine jL ?_) | refine jM (by omega) ?_ | refine jN (by omega) ?_ | with_reducible refine jM rfl ?_ | refine jM (by assumption) ?_ | refine jN (by assumption) ?_ | refine jM (by decide) ?_ | refine jN (by decide) ?_) | refine jF (ptr_ok tblOk rfl rfl) ?_ | refine jO (fun _ => by kernel_rfl) ?_ | refine jF (by decide) ?_)
  refine SemW.loop (fun x : Nat × Bytes × Option Addr × Nat => [(0, .int .u64 x.1), (3, .slice x.2.2.1 x.2.1.length x.2.2.2)])
    (fun x w' => x.1 ≤ n0 ∧ numB n0 = x.2.1 ++ numB x.1 ∧ ∃ L, Vec T_uint8 1 x.2.2.1 x.2.1.length x.2.2.2 (x.2.1.map byteV) L ∧ St w [] L w') (fun x => x.1) (n0, [], none, 0)
    ⟨rfl, rfl, trivial⟩ ⟨Nat.le_refl _, rfl, [], Vec.nil, hS⟩ ?_
  rintro ⟨m, pre, a, c⟩ w1 ⟨hm, hpre, L, hv, hS⟩
  simp only at hm hpre hv hS ⊢
  have hpl : pre.length + (numB m).length ≤ 10 := by rw [← List.length_append, ← hpre]; exact hlen0
  have hp1 := numB_pos m
  by_cases h : m < 128
  · rw [numB_lt h] at hpre
    have hb : IntKind.u8.wrap (m : Int) = (((UInt8.ofNat m).toNat : Nat) : Int) := u8wrap m
    have hbm : (((UInt8.ofNat m).toNat : Nat) : Int) = (m : Int) := by rw [← hb, wrapU .u8 rfl]; congr 1; exact Nat.mod_eq_of_lt (by show m < 256; omega)
    repeat (first | refine SemW.run tblOk ?_ | refine jA (by omega) ?_ | refine jB (by omega) ?_ | refine jC (by omega) ?_ | refine jD (by omega) ?_ | refine jE rfl ?_ | refine jF (by omega) ?_ | (refine jG ?_; first | with_reducible (first | refine jH ?_ | refine jI ?_ | refine jJ ?_ | refine jK ?_ | refine jL ?_) | refine jM (by omega) ?_ | refine jN (by omega) ?_ | with_reducible refine jM rfl ?_ | refine jM (by assumption) ?_ | refine jN (by assumption) ?_ | refine jM (by decide) ?_ | refine jN (by decide) ?_) | refine jF (ptr_ok tblOk rfl rfl) ?_ | refine jO (fun _ => by kernel_rfl) ?_ | refine jF (by decide) ?_)
    refine hS.al ?_
    intro r w2 _ hS
    repeat (first | refine SemW.run tblOk ?_ | refine jA (by omega) ?_ | refine jB (by omega) ?_ | refine jC (by omega) ?_ | refine jD (by omega) ?_ | refine jE rfl ?_ | refine jF (by omega) ?_ | (refine jG ?_; first | with_reducible (first | refine jH ?_ | refine jI ?_ | refine jJ ?_ | refine jK ?_ | refine jL ?_) | refine jM (by omega) ?_ | refine jN (by omega) ?_ | with_reducible refine jM rfl ?_ | refine jM (by assumption) ?_ | refine jN (by assumption) ?_ | refine jM (by decide) ?_ | refine jN (by decide) ?_) | refine jF (ptr_ok tblOk rfl rfl) ?_ | refine jO (fun _ => by kernel_rfl) ?_ | refine jF (by decide) ?_)
    refine St.app (sz := 1) (m := 1) tblOk rfl rfl rfl rfl hS hv (news := [UInt8.ofNat m].map byteV) rfl (by
      have := hS.arr (b := r) (T' := []) (by simp)
      have e : ([.int .u8 (m : Int)] : List Value) = [UInt8.ofNat m].map byteV := by simp only [List.map_cons, List.map_nil, byteV, hbm]
      rw [← e]; exact this) rfl (by show (_ + _) * 1 ≤ _; omega) (by omega) ?_
    intro a' c' L' w3 hv' hS
    rw [← List.map_append, ← hpre] at hv'
    have hl : pre.length + 1 = (numB n0).length := by rw [hpre]; simp
    rw [hl] at hv' ⊢
    repeat (first | refine SemW.run tblOk ?_ | refine jA (by omega) ?_ | refine jB (by omega) ?_ | refine jC (by omega) ?_ | refine jD (by omega) ?_ | refine jE rfl ?_ | refine jF (by omega) ?_ | (refine jG ?_; first | with_reducible (first | refine jH ?_ | refine jI ?_ | refine jJ ?_ | refine jK ?_ | refine jL ?_) | refine jM (by omega) ?_ | refine jN (by omega) ?_ | with_reducible refine jM rfl ?_ | refine jM (by assumption) ?_ | refine jN (by assumption) ?_ | refine jM (by decide) ?_ | refine jN (by decide) ?_) | refine jF (ptr_ok tblOk rfl rfl) ?_ | refine jO (fun _ => by kernel_rfl) ?_ | refine jF (by decide) ?_)
    refine toStr (T := []) tblOk rfl rfl rfl rfl rfl rfl (bs := numB n0) rfl (fun w' hw' => by subst hw'; exact hv'.arr hS (by simp)) ?_
    repeat (first | refine SemW.run tblOk ?_ | refine jA (by omega) ?_ | refine jB (by omega) ?_ | refine jC (by omega) ?_ | refine jD (by omega) ?_ | refine jE rfl ?_ | refine jF (by omega) ?_ | (refine jG ?_; first | with_reducible (first | refine jH ?_ | refine jI ?_ | refine jJ ?_ | refine jK ?_ | refine jL ?_) | refine jM (by omega) ?_ | refine jN (by omega) ?_ | with_reducible refine jM rfl ?_ | refine jM (by assumption) ?_ | refine jN (by assumption) ?_ | refine jM (by decide) ?_ | refine jN (by decide) ?_) | refine jF (ptr_ok tblOk rfl rfl) ?_ | refine jO (fun _ => by kernel_rfl) ?_ | refine jF (by decide) ?_)
    exact ⟨rfl, hS.nil⟩
  · rw [numB_ge h] at hpre
    have e1 : ((m : Int).tmod 128) = ((m % 128 : Nat) : Int) := tmodN m 128
    have e2 : ((m : Int).tdiv 128) = ((m / 128 : Nat) : Int) := tdivN m 128
    have hbm : (((UInt8.ofNat (m % 128 + 128)).toNat : Nat) : Int) = ((m % 128 : Nat) : Int) + 128 := by
      have : (UInt8.ofNat (m % 128 + 128)).toNat = m % 128 + 128 := by simp; omega
      rw [this]; omega
    repeat (first | refine SemW.run tblOk ?_ | refine jA (by omega) ?_ | refine jB (by omega) ?_ | refine jC (by omega) ?_ | refine jD (by omega) ?_ | refine jE rfl ?_ | refine jF (by omega) ?_ | (refine jG ?_; first | with_reducible (first | refine jH ?_ | refine jI ?_ | refine jJ ?_ | refine jK ?_ | refine jL ?_) | refine jM (by omega) ?_ | refine jN (by omega) ?_ | with_reducible refine jM rfl ?_ | refine jM (by assumption) ?_ | refine jN (by assumption) ?_ | refine jM (by decide) ?_ | refine jN (by decide) ?_) | refine jF (ptr_ok tblOk rfl rfl) ?_ | refine jO (fun _ => by kernel_rfl) ?_ | refine jF (by decide) ?_)
    rw [e1]
    repeat (first | refine SemW.run tblOk ?_ | refine jA (by omega) ?_ | refine jB (by omega) ?_ | refine jC (by omega) ?_ | refine jD (by omega) ?_ | refine jE rfl ?_ | refine jF (by omega) ?_ | (refine jG ?_; first | with_reducible (first | refine jH ?_ | refine jI ?_ | refine jJ ?_ | refine jK ?_ | refine jL ?_) | refine jM (by omega) ?_ | refine jN (by omega) ?_ | with_reducible refine jM rfl ?_ | refine jM (by assumption) ?_ | refine jN (by assumption) ?_ | refine jM (by decide) ?_ | refine jN (by decide) ?_) | refine jF (ptr_ok tblOk rfl rfl) ?_ | refine jO (fun _ => by kernel_rfl) ?_ | refine jF (by decide) ?_)
    refine hS.al ?_
    intro r w2 _ hS
    repeat (first | refine SemW.run tblOk ?_ | refine jA (by omega) ?_ | refine jB (by omega) ?_ | refine jC (by omega) ?_ | refine jD (by omega) ?_ | refine jE rfl ?_ | refine jF (by omega) ?_ | (refine jG ?_; first | with_reducible (first | refine jH ?_ | refine jI ?_ | refine jJ ?_ | refine jK ?_ | refine jL ?_) | refine jM (by omega) ?_ | refine jN (by omega) ?_ | with_reducible refine jM rfl ?_ | refine jM (by assumption) ?_ | refine jN (by assumption) ?_ | refine jM (by decide) ?_ | refine jN (by decide) ?_) | refine jF (ptr_ok tblOk rfl rfl) ?_ | refine jO (fun _ => by kernel_rfl) ?_ | refine jF (by decide) ?_)
    refine St.app (sz := 1) (m := 1) tblOk rfl rfl rfl rfl hS hv (news := [UInt8.ofNat (m % 128 + 128)].map byteV) rfl (by
      have := hS.arr (b := r) (T' := []) (by simp)
      have e : ([.int .u8 (((m % 128 : Nat) : Int) + 128)] : List Value) = [UInt8.ofNat (m % 128 + 128)].map byteV := by simp only [List.map_cons, List.map_nil, byteV, hbm]
      rw [← e]; exact this) rfl (by show (_ + _) * 1 ≤ _; omega) (by omega) ?_
    intro a' c' L' w3 hv' hS
    have hS := hS.sub (H' := L') (List.sublist_cons_self _ _)
    rw [← List.map_append] at hv'
    have hl : pre.length + 1 = (pre ++ [UInt8.ofNat (m % 128 + 128)]).length := by simp
    rw [hl] at hv' ⊢
    repeat (first | refine SemW.run tblOk ?_ | refine jA (by omega) ?_ | refine jB (by omega) ?_ | refine jC (by omega) ?_ | refine jD (by omega) ?_ | refine jE rfl ?_ | refine jF (by omega) ?_ | (refine jG ?_; first | with_reducible (first | refine jH ?_ | refine jI ?_ | refine jJ ?_ | refine jK ?_ | refine jL ?_) | refine jM (by omega) ?_ | refine jN (by omega) ?_ | with_reducible refine jM rfl ?_ | refine jM (by assumption) ?_ | refine jN (by assumption) ?_ | refine jM (by decide) ?_ | refine jN (by decide) ?_) | refine jF (ptr_ok tblOk rfl rfl) ?_ | refine jO (fun _ => by kernel_rfl) ?_ | refine jF (by decide) ?_)
    rw [e2]
    repeat (first | refine SemW.run tblOk ?_ | refine jA (by omega) ?_ | refine jB (by omega) ?_ | refine jC (by omega) ?_ | refine jD (by omega) ?_ | refine jE rfl ?_ | refine jF (by omega) ?_ | (refine jG ?_; first | with_reducible (first | refine jH ?_ | refine jI ?_ | refine jJ ?_ | refine jK ?_ | refine jL ?_) | refine jM (by omega) ?_ | refine jN (by omega) ?_ | with_reducible refine jM rfl ?_ | refine jM (by assumption) ?_ | refine jN (by assumption) ?_ | refine jM (by decide) ?_ | refine jN (by decide) ?_) | refine jF (ptr_ok tblOk rfl rfl) ?_ | refine jO (fun _ => by kernel_rfl) ?_ | refine jF (by decide) ?_)
    refine ⟨(m / 128, pre ++ [UInt8.ofNat (m % 128 + 128)], a', c'), ⟨rfl, rfl, trivial⟩, ⟨by simp only; omega, by simp only [List.append_assoc]; exact hpre, L', hv', hS⟩, by simp only; omega⟩
theorem IntE_spec {w : World} (z : Int) (hz : i64ok z) : Cl Tryz.prog f_tarmacref01_Int [.int .i64 z] w fun v w' => v = Str (intB z) ∧ St w [] [] w' := by
  have hS := St.start w
  have hzl : zig z < 18446744073709551616 := by
    unfold i64ok at hz; unfold zig; split <;> omega
  refine en_tarmacref01_Int rfl ?_
  repeat (first | refine SemW.run tblOk ?_ | refine jA (by omega) ?_ | refine jB (by omega) ?_ | refine jC (by omega) ?_ | refine jD (by omega) ?_ | refine jE rfl ?_ | refine jF (by omega) ?_ | (refine jG ?_; first | with_reducible (first | refine jH ?_ | refine jI ?_ | refine jJ ?_ | refine jK ?_ | refine jL ?_) | refine jM (by omega) ?_ | refine jN (by omega) ?_ | with_reducible refine jM rfl ?_ | refine jM (by assumption) ?_ | refine jN (by assumption) ?_ | refine jM (by decide) ?_ | refine jN (by decide) ?_) | refine jF (ptr_ok tblOk rfl rfl) ?_ | refine jO (fun _ => by kernel_rfl) ?_ | refine jF (by decide) ?_)
  refine Cl.mono (Fold_spec z hz) ?_
  rintro _ w1 ⟨rfl, hS'⟩
  have hS := hS.call0 hS'
  repeat (first | refine SemW.run tblOk ?_ | refine jA (by omega) ?_ | refine jB (by omega) ?_ | refine jC (by omega) ?_ | refine jD (by omega) ?_ | refine jE rfl ?_ | refine jF (by omega) ?_ | (refine jG ?_; first | with_reducible (first | refine jH ?_ | refine jI ?_ | refine jJ ?_ | refine jK ?_ | refine jL ?_) | refine jM (by omega) ?_ | refine jN (by omega) ?_ | with_reducible refine jM rfl ?_ | refine jM (by assumption) ?_ | refine jN (by assumption) ?_ | refine jM (by decide) ?_ | refine jN (by decide) ?_) | refine jF (ptr_ok tblOk rfl rfl) ?_ | refine jO (fun _ => by kernel_rfl) ?_ | refine jF (by decide) ?_)
  refine Cl.mono (NumE_spec (zig z) hzl) ?_
  rintro _ w2 ⟨rfl, hS'⟩
  have hS := hS.call0 hS'
  repeat (first | refine SemW.run tblOk ?_ | refine jA (by omega) ?_ | refine jB (by omega) ?_ | refine jC (by omega) ?_ | refine jD (by omega) ?_ | refine jE rfl ?_ | refine jF (by omega) ?_ | (refine jG ?_; first | with_reducible (first | refine jH ?_ | refine jI ?_ | refine jJ ?_ | refine jK ?_ | refine jL ?_) | refine jM (by omega) ?_ | refine jN (by omega) ?_ | with_reducible refine jM rfl ?_ | refine jM (by assumption) ?_ | refine jN (by assumption) ?_ | refine jM (by decide) ?_ | refine jN (by decide) ?_) | refine jF (ptr_ok tblOk rfl rfl) ?_ | refine jO (fun _ => by kernel_rfl) ?_ | refine jF (by decide) ?_)
  exact ⟨rfl, hS⟩
end Go.Proofs.YthpmmfapolcaiaaGreatDoor

/- The document's reader (tarmacref01). -/
namespace Go.Proofs.YthpmmfapolcaiaaGreatDoor
open Go Go.Eng Go.Proofs
/-! The reader. -/
abbrev rdC' (t : Bytes) : Obj := .cells ⟨[Str t]⟩ T_tarmacref01_Reader (0, 0)
theorem numJ_ref {t : Bytes} {k n : Nat} (h : numJ t k n) (hk : k < t.length) (hk9 : k ≤ 9) (h9 : ¬ (k = 9 ∧ 1 < t[k].toNat)) (h128 : t[k].toNat < 128) :
    (numB (n + t[k].toNat % 128 * 2 ^ (7 * k)) = t.take (k + 1) → numO t = (n + t[k].toNat % 128 * 2 ^ (7 * k), 0, t.drop (k + 1))) ∧
    (¬ numB (n + t[k].toNat % 128 * 2 ^ (7 * k)) = t.take (k + 1) → numO t = (0, 1, t)) := by
  by_cases hz : 0 < k ∧ t[k].toNat = 0
  · have hf := numJ_fail h (by rw [numS_at hk, if_pos (by omega)])
    refine ⟨fun he => ?_, fun _ => hf⟩
    exfalso
    have hlt : n + t[k].toNat % 128 * 2 ^ (7 * k) < 18446744073709551616 := (low7 n t[k].toNat k h.2.2.1 (t[k]).toNat_lt hk9 (by omega)).2
    have := (numR_iff t (n + t[k].toNat % 128 * 2 ^ (7 * k)) (t.drop (k + 1))).2 ⟨by rw [he, List.take_append_drop], hlt⟩
    unfold numO at hf
    rw [this] at hf
    simp at hf
  · have hd := numJ_done h hk (by omega) h128
    refine ⟨fun _ => hd, fun hne => ?_⟩
    exfalso
    apply hne
    have hr : numR t = some (n + t[k].toNat % 128 * 2 ^ (7 * k), t.drop (k + 1)) := by
      unfold numO at hd
      cases hr : numR t with
      | none => rw [hr] at hd; simp at hd
      | some x =>
        obtain ⟨m, r⟩ := x
        rw [hr] at hd
        simp only [Prod.mk.injEq, true_and] at hd
        rw [hd.1, hd.2]
    have h1 := ((numR_iff t _ _).1 hr).1
    have h2 : (numB (n + t[k].toNat % 128 * 2 ^ (7 * k))).length = k + 1 := by
      have := congrArg List.length h1
      rw [List.length_append, List.length_drop] at this; omega
    have h3 : (numB (n + t[k].toNat % 128 * 2 ^ (7 * k)) ++ t.drop (k + 1)).take (k + 1) = numB (n + t[k].toNat % 128 * 2 ^ (7 * k)) := List.take_left' h2
    rw [← h1] at h3
    exact h3.symm
set_option maxHeartbeats 8000000 in
set_option maxRecDepth 4000 in
theorem RNumE_spec {w : World} {b : Nat} {t : Bytes} (hh : Holds [(b, rdC' t)] w) (ht : t.length ≤ 70368744177664) :
    Cl Tryz.prog f_tarmacref01_Reader_Num [ptr b] w fun v w' => v = .tuple ⟨[.int .u64 (numO t).1, .int .i64 (numO t).2.1]⟩ ∧ St w [b] [(b, rdC' (numO t).2.2)] w' := by
  have hS : St w [b] [(b, rdC' t)] w := St.enter hh
  refine en_tarmacref01_Reader_Num rfl ?_
  repeat (first | refine SemW.run tblOk ?_ | refine jA (by omega) ?_ | refine jB (by omega) ?_ | refine jC (by omega) ?_ | refine jD (by omega) ?_ | refine jE rfl ?_ | refine jF (by omega) ?_ | (refine jG ?_; first | with_reducible (first | refine jH ?_ | refine jI ?_ | refine jJ ?_ | refine jK ?_ | refine jL ?_) | refine jM (by omega) ?_ | refine jN (by omega) ?_ | with_reducible refine jM rfl ?_ | refine jM (by assumption) ?_ | refine jN (by assumption) ?_ | refine jM (by decide) ?_ | refine jN (by decide) ?_) | refine jF (ptr_ok tblOk rfl rfl) ?_ | refine jO (fun _ => by kernel_rfl) ?_ | refine jF (by decide) ?_)
  refine SemW.loop (fun x : Nat × Nat => [(0, ptr b), (4, .int .u64 x.2), (5, .int .i64 x.1)])
    (fun x w' => numJ t x.1 x.2 ∧ St w [b] [(b, rdC' t)] w') (fun x => 10 - x.1) (0, 0)
    ⟨rfl, rfl, rfl, trivial⟩ ⟨⟨by omega, by omega, by simp, by simp only [List.drop_zero]; cases numS 0 t <;> simp⟩, hS⟩ ?_
  rintro ⟨k, n⟩ w1 ⟨hJ, hS⟩
  simp only at hJ hS ⊢
  have hkk := hJ.1
  have hkl := hJ.2.1
  by_cases hk : k < 10 ∧ k < t.length
  rotate_left
  · have hfail := numJ_fail hJ (numS_stop hk)
    by_cases hk10 : k < 10
    · repeat (first | refine SemW.run tblOk ?_ | refine jA (by omega) ?_ | refine jB (by omega) ?_ | refine jC (by omega) ?_ | refine jD (by omega) ?_ | refine jE rfl ?_ | refine jF (by omega) ?_ | (refine jG ?_; first | with_reducible (first | refine jH ?_ | refine jI ?_ | refine jJ ?_ | refine jK ?_ | refine jL ?_) | refine jM (by omega) ?_ | refine jN (by omega) ?_ | with_reducible refine jM rfl ?_ | refine jM (by assumption) ?_ | refine jN (by assumption) ?_ | refine jM (by decide) ?_ | refine jN (by decide) ?_) | refine jF (ptr_ok tblOk rfl rfl) ?_ | refine jO (fun _ => by kernel_rfl) ?_ | refine jF (by decide) ?_ | refine hS.ld rfl ?_ | refine hS.ldn rfl ?_ | (refine hS.st rfl rfl ?_; intro _ hS))
      rw [hfail]
      exact ⟨rfl, hS⟩
    · repeat (first | refine SemW.run tblOk ?_ | refine jA (by omega) ?_ | refine jB (by omega) ?_ | refine jC (by omega) ?_ | refine jD (by omega) ?_ | refine jE rfl ?_ | refine jF (by omega) ?_ | (refine jG ?_; first | with_reducible (first | refine jH ?_ | refine jI ?_ | refine jJ ?_ | refine jK ?_ | refine jL ?_) | refine jM (by omega) ?_ | refine jN (by omega) ?_ | with_reducible refine jM rfl ?_ | refine jM (by assumption) ?_ | refine jN (by assumption) ?_ | refine jM (by decide) ?_ | refine jN (by decide) ?_) | refine jF (ptr_ok tblOk rfl rfl) ?_ | refine jO (fun _ => by kernel_rfl) ?_ | refine jF (by decide) ?_ | refine hS.ld rfl ?_ | refine hS.ldn rfl ?_ | (refine hS.st rfl rfl ?_; intro _ hS))
      rw [hfail]
      exact ⟨rfl, hS⟩
  obtain ⟨hk10, hkt⟩ := hk
  obtain ⟨c, hc⟩ : ∃ c, c = t.getD ((k : Int)).toNat 0 := ⟨_, rfl⟩
  have hct : c = t[k] := by rw [hc]; simp [hkt]
  have hclt := c.toNat_lt
  have ecm : ((c.toNat : Int).tmod 128) = ((c.toNat % 128 : Nat) : Int) := tmodN c.toNat 128
  by_cases hbad : k = 9 ∧ 1 < c.toNat
  · have hfail := numJ_fail hJ (by rw [numS_at hkt, if_pos (by rw [← hct]; omega)])
    obtain ⟨hk9, hc1⟩ := hbad
    repeat (first | refine SemW.run tblOk ?_ | refine jA (by omega) ?_ | refine jB (by omega) ?_ | refine jC (by omega) ?_ | refine jD (by omega) ?_ | refine jE rfl ?_ | refine jF (by omega) ?_ | (refine jG ?_; first | with_reducible (first | refine jH ?_ | refine jI ?_ | refine jJ ?_ | refine jK ?_ | refine jL ?_) | refine jM (by omega) ?_ | refine jN (by omega) ?_ | with_reducible refine jM rfl ?_ | refine jM (by assumption) ?_ | refine jN (by assumption) ?_ | refine jM (by decide) ?_ | refine jN (by decide) ?_) | refine jF (ptr_ok tblOk rfl rfl) ?_ | refine jO (fun _ => by kernel_rfl) ?_ | refine jF (by decide) ?_ | refine hS.ld rfl ?_ | refine hS.ldn rfl ?_ | (refine hS.st rfl rfl ?_; intro _ hS))
    rw [← hc, ecm]
    repeat (first | refine SemW.run tblOk ?_ | refine jA (by omega) ?_ | refine jB (by omega) ?_ | refine jC (by omega) ?_ | refine jD (by omega) ?_ | refine jE rfl ?_ | refine jF (by omega) ?_ | (refine jG ?_; first | with_reducible (first | refine jH ?_ | refine jI ?_ | refine jJ ?_ | refine jK ?_ | refine jL ?_) | refine jM (by omega) ?_ | refine jN (by omega) ?_ | with_reducible refine jM rfl ?_ | refine jM (by assumption) ?_ | refine jN (by assumption) ?_ | refine jM (by decide) ?_ | refine jN (by decide) ?_) | refine jF (ptr_ok tblOk rfl rfl) ?_ | refine jO (fun _ => by kernel_rfl) ?_ | refine jF (by decide) ?_ | refine hS.ld rfl ?_ | refine hS.ldn rfl ?_ | (refine hS.st rfl rfl ?_; intro _ hS))
    rw [hfail]
    exact ⟨rfl, hS⟩
  obtain ⟨P, hP⟩ : ∃ P, P = 2 ^ (7 * k) := ⟨_, rfl⟩
  have hl7 := (low7 n c.toNat k hJ.2.2.1 hclt (by omega) (by omega)).2
  rw [← hP] at hl7
  have hPle : P ≤ 2 ^ (7 * 9) := by rw [hP]; exact Nat.pow_le_pow_right (by omega) (by omega)
  have hPle : P ≤ 9223372036854775808 := hPle
  obtain ⟨cp, hcp⟩ : ∃ cp, cp = c.toNat % 128 * P := ⟨_, rfl⟩
  rw [← hcp] at hl7
  have hcpi : ((c.toNat % 128 : Nat) : Int) * (P : Int) = (cp : Int) := by rw [hcp]; simp
  have ek : ((k : Int) + 1).toNat = k + 1 := by omega
  have hwm : IntKind.u64.wrap ((c.toNat % 128 : Nat) : Int) = ((c.toNat % 128 : Nat) : Int) := by
    rw [wrapU .u64 rfl]; congr 1; exact Nat.mod_eq_of_lt (by show _ < 18446744073709551616; omega)
  by_cases hk9 : k = 9
  · repeat (first | refine SemW.run tblOk ?_ | refine jA (by omega) ?_ | refine jB (by omega) ?_ | refine jC (by omega) ?_ | refine jD (by omega) ?_ | refine jE rfl ?_ | refine jF (by omega) ?_ | (refine jG ?_; first | with_reducible (first | refine jH ?_ | refine jI ?_ | refine jJ ?_ | refine jK ?_ | refine jL ?_) | refine jM (by omega) ?_ | refine jN (by omega) ?_ | with_reducible refine jM rfl ?_ | refine jM (by assumption) ?_ | refine jN (by assumption) ?_ | refine jM (by decide) ?_ | refine jN (by decide) ?_) | refine jF (ptr_ok tblOk rfl rfl) ?_ | refine jO (fun _ => by kernel_rfl) ?_ | refine jF (by decide) ?_ | refine hS.ld rfl ?_ | refine hS.ldn rfl ?_ | (refine hS.st rfl rfl ?_; intro _ hS))
    rw [← hc, ecm, hwm]
    repeat (first | refine SemW.run tblOk ?_ | refine jA (by omega) ?_ | refine jB (by omega) ?_ | refine jC (by omega) ?_ | refine jD (by omega) ?_ | refine jE rfl ?_ | refine jF (by omega) ?_ | (refine jG ?_; first | with_reducible (first | refine jH ?_ | refine jI ?_ | refine jJ ?_ | refine jK ?_ | refine jL ?_) | refine jM (by omega) ?_ | refine jN (by omega) ?_ | with_reducible refine jM rfl ?_ | refine jM (by assumption) ?_ | refine jN (by assumption) ?_ | refine jM (by decide) ?_ | refine jN (by decide) ?_) | refine jF (ptr_ok tblOk rfl rfl) ?_ | refine jO (fun _ => by kernel_rfl) ?_ | refine jF (by decide) ?_ | refine hS.ld rfl ?_ | refine hS.ldn rfl ?_ | (refine hS.st rfl rfl ?_; intro _ hS))
    refine SemW.loop (fun i : Nat => [(0, ptr b), (4, .int .u64 n), (5, .int .i64 k), (6, .int .u64 (c.toNat % 128 : Nat)), (7, .int .u64 (2 ^ (7 * i) : Nat)), (8, .int .i64 i)])
      (fun i w' => i ≤ k ∧ St w [b] [(b, rdC' t)] w') (fun i => k - i) 0
      ⟨rfl, rfl, rfl, rfl, rfl, rfl, trivial⟩ ⟨Nat.zero_le _, hS⟩ ?_
    rintro i w2 ⟨hi, hS⟩
    by_cases hik : i < k
    · have h2 : 2 ^ (7 * (i + 1)) = 2 ^ (7 * i) * 128 := by rw [show 7 * (i + 1) = 7 * i + 7 by omega, Nat.pow_add]
      have h3 : 2 ^ (7 * (i + 1)) ≤ P := by rw [hP]; exact Nat.pow_le_pow_right (by omega) (by omega)
      obtain ⟨U, hU⟩ : ∃ U, U = 2 ^ (7 * i) := ⟨_, rfl⟩
      rw [← hU] at h2 ⊢
      repeat (first | refine SemW.run tblOk ?_ | refine jA (by omega) ?_ | refine jB (by omega) ?_ | refine jC (by omega) ?_ | refine jD (by omega) ?_ | refine jE rfl ?_ | refine jF (by omega) ?_ | (refine jG ?_; first | with_reducible (first | refine jH ?_ | refine jI ?_ | refine jJ ?_ | refine jK ?_ | refine jL ?_) | refine jM (by omega) ?_ | refine jN (by omega) ?_ | with_reducible refine jM rfl ?_ | refine jM (by assumption) ?_ | refine jN (by assumption) ?_ | refine jM (by decide) ?_ | refine jN (by decide) ?_) | refine jF (ptr_ok tblOk rfl rfl) ?_ | refine jO (fun _ => by kernel_rfl) ?_ | refine jF (by decide) ?_ | refine hS.ld rfl ?_ | refine hS.ldn rfl ?_ | (refine hS.st rfl rfl ?_; intro _ hS))
      exact ⟨i + 1, ⟨rfl, rfl, rfl, rfl, congrArg (Value.int .u64) (by rw [h2]; omega), rfl, trivial⟩, ⟨by omega, hS⟩, by omega⟩
    have hik : i = k := by omega
    subst hik
    rw [← hP]
    repeat (first | refine SemW.run tblOk ?_ | refine jA (by omega) ?_ | refine jB (by omega) ?_ | refine jC (by omega) ?_ | refine jD (by omega) ?_ | refine jE rfl ?_ | refine jF (by omega) ?_ | (refine jG ?_; first | with_reducible (first | refine jH ?_ | refine jI ?_ | refine jJ ?_ | refine jK ?_ | refine jL ?_) | refine jM (by omega) ?_ | refine jN (by omega) ?_ | with_reducible refine jM rfl ?_ | refine jM (by assumption) ?_ | refine jN (by assumption) ?_ | refine jM (by decide) ?_ | refine jN (by decide) ?_) | refine jF (ptr_ok tblOk rfl rfl) ?_ | refine jO (fun _ => by kernel_rfl) ?_ | refine jF (by decide) ?_ | refine hS.ld rfl ?_ | refine hS.ldn rfl ?_ | (refine hS.st rfl rfl ?_; intro _ hS))
    rw [hcpi]
    by_cases h128 : c.toNat < 128
    · obtain ⟨hyes, hno⟩ := numJ_ref hJ hkt (by omega) (by rw [← hct]; exact hbad) (by rw [← hct]; exact h128)
      rw [← hct, ← hP, ← hcp] at hyes hno
      repeat (first | refine SemW.run tblOk ?_ | refine jA (by omega) ?_ | refine jB (by omega) ?_ | refine jC (by omega) ?_ | refine jD (by omega) ?_ | refine jE rfl ?_ | refine jF (by omega) ?_ | (refine jG ?_; first | with_reducible (first | refine jH ?_ | refine jI ?_ | refine jJ ?_ | refine jK ?_ | refine jL ?_) | refine jM (by omega) ?_ | refine jN (by omega) ?_ | with_reducible refine jM rfl ?_ | refine jM (by assumption) ?_ | refine jN (by assumption) ?_ | refine jM (by decide) ?_ | refine jN (by decide) ?_) | refine jF (ptr_ok tblOk rfl rfl) ?_ | refine jO (fun _ => by kernel_rfl) ?_ | refine jF (by decide) ?_ | refine hS.ld rfl ?_ | refine hS.ldn rfl ?_ | (refine hS.st rfl rfl ?_; intro _ hS))
      rw [← hc]
      by_cases he : numB (n + cp) = t.take (i + 1)
      · repeat (first | refine SemW.run tblOk ?_ | refine jA (by omega) ?_ | refine jB (by omega) ?_ | refine jC (by omega) ?_ | refine jD (by omega) ?_ | refine jE rfl ?_ | refine jF (by omega) ?_ | (refine jG ?_; first | with_reducible (first | refine jH ?_ | refine jI ?_ | refine jJ ?_ | refine jK ?_ | refine jL ?_) | refine jM (by omega) ?_ | refine jN (by omega) ?_ | with_reducible refine jM rfl ?_ | refine jM (by assumption) ?_ | refine jN (by assumption) ?_ | refine jM (by decide) ?_ | refine jN (by decide) ?_) | refine jF (ptr_ok tblOk rfl rfl) ?_ | refine jO (fun _ => by kernel_rfl) ?_ | refine jF (by decide) ?_ | refine hS.ld rfl ?_ | refine hS.ldn rfl ?_ | (refine hS.st rfl rfl ?_; intro _ hS))
        refine SemW.draw tblOk mixed (fun w' => St w [b] [(b, rdC' t)] w') [] [0, 2, 3, 4, 5, 6, 7, 8, 1, 9] (by kernel_rfl) hS.drew ?_
        have hS := hS.drew
        repeat (first | refine SemW.run tblOk ?_ | refine jA (by omega) ?_ | refine jB (by omega) ?_ | refine jC (by omega) ?_ | refine jD (by omega) ?_ | refine jE rfl ?_ | refine jF (by omega) ?_ | (refine jG ?_; first | with_reducible (first | refine jH ?_ | refine jI ?_ | refine jJ ?_ | refine jK ?_ | refine jL ?_) | refine jM (by omega) ?_ | refine jN (by omega) ?_ | with_reducible refine jM rfl ?_ | refine jM (by assumption) ?_ | refine jN (by assumption) ?_ | refine jM (by decide) ?_ | refine jN (by decide) ?_) | refine jF (ptr_ok tblOk rfl rfl) ?_ | refine jO (fun _ => by kernel_rfl) ?_ | refine jF (by decide) ?_ | refine hS.ldC rfl ?_ | refine hS.ldnC rfl ?_)
        rw [show (n : Int) + (cp : Int) = ((n + cp : Nat) : Int) by omega, ek]
        refine Cl.mono (NumE_spec (n + cp) hl7) ?_
        rintro _ w4 ⟨rfl, hS'⟩
        have hS := hS.call0 hS'
        refine Chk.mk hS ?_
        repeat (first | refine SemW.run tblOk ?_ | refine jA (by omega) ?_ | refine jB (by omega) ?_ | refine jC (by omega) ?_ | refine jD (by omega) ?_ | refine jE rfl ?_ | refine jF (by omega) ?_ | (refine jG ?_; first | with_reducible (first | refine jH ?_ | refine jI ?_ | refine jJ ?_ | refine jK ?_ | refine jL ?_) | refine jM (by omega) ?_ | refine jN (by omega) ?_ | with_reducible refine jM rfl ?_ | refine jM (by assumption) ?_ | refine jN (by assumption) ?_ | refine jM (by decide) ?_ | refine jN (by decide) ?_) | refine jF (ptr_ok tblOk rfl rfl) ?_ | refine jO (fun _ => by kernel_rfl) ?_ | refine jF (by decide) ?_ | refine hS.ld rfl ?_ | refine hS.ldn rfl ?_ | (refine hS.st rfl rfl ?_; intro _ hS))
        rw [hyes he]
        rw [ek] at hS
        exact ⟨rfl, hS⟩
      · repeat (first | refine SemW.run tblOk ?_ | refine jA (by omega) ?_ | refine jB (by omega) ?_ | refine jC (by omega) ?_ | refine jD (by omega) ?_ | refine jE rfl ?_ | refine jF (by omega) ?_ | (refine jG ?_; first | with_reducible (first | refine jH ?_ | refine jI ?_ | refine jJ ?_ | refine jK ?_ | refine jL ?_) | refine jM (by omega) ?_ | refine jN (by omega) ?_ | with_reducible refine jM rfl ?_ | refine jM (by assumption) ?_ | refine jN (by assumption) ?_ | refine jM (by decide) ?_ | refine jN (by decide) ?_) | refine jF (ptr_ok tblOk rfl rfl) ?_ | refine jO (fun _ => by kernel_rfl) ?_ | refine jF (by decide) ?_ | refine hS.ld rfl ?_ | refine hS.ldn rfl ?_ | (refine hS.st rfl rfl ?_; intro _ hS))
        refine SemW.draw tblOk mixed (fun w' => St w [b] [(b, rdC' t)] w') [] [0, 2, 3, 4, 5, 6, 7, 8, 1, 9] (by kernel_rfl) hS.drew ?_
        have hS := hS.drew
        repeat (first | refine SemW.run tblOk ?_ | refine jA (by omega) ?_ | refine jB (by omega) ?_ | refine jC (by omega) ?_ | refine jD (by omega) ?_ | refine jE rfl ?_ | refine jF (by omega) ?_ | (refine jG ?_; first | with_reducible (first | refine jH ?_ | refine jI ?_ | refine jJ ?_ | refine jK ?_ | refine jL ?_) | refine jM (by omega) ?_ | refine jN (by omega) ?_ | with_reducible refine jM rfl ?_ | refine jM (by assumption) ?_ | refine jN (by assumption) ?_ | refine jM (by decide) ?_ | refine jN (by decide) ?_) | refine jF (ptr_ok tblOk rfl rfl) ?_ | refine jO (fun _ => by kernel_rfl) ?_ | refine jF (by decide) ?_ | refine hS.ldC rfl ?_ | refine hS.ldnC rfl ?_)
        rw [show (n : Int) + (cp : Int) = ((n + cp : Nat) : Int) by omega, ek]
        refine Cl.mono (NumE_spec (n + cp) hl7) ?_
        rintro _ w4 ⟨rfl, hS'⟩
        have hS := hS.call0 hS'
        refine Chk.mk hS ?_
        have hfail := hno he
        repeat (first | refine SemW.run tblOk ?_ | refine jA (by omega) ?_ | refine jB (by omega) ?_ | refine jC (by omega) ?_ | refine jD (by omega) ?_ | refine jE rfl ?_ | refine jF (by omega) ?_ | (refine jG ?_; first | with_reducible (first | refine jH ?_ | refine jI ?_ | refine jJ ?_ | refine jK ?_ | refine jL ?_) | refine jM (by omega) ?_ | refine jN (by omega) ?_ | with_reducible refine jM rfl ?_ | refine jM (by assumption) ?_ | refine jN (by assumption) ?_ | refine jM (by decide) ?_ | refine jN (by decide) ?_) | refine jF (ptr_ok tblOk rfl rfl) ?_ | refine jO (fun _ => by kernel_rfl) ?_ | refine jF (by decide) ?_ | refine hS.ld rfl ?_ | refine hS.ldn rfl ?_ | (refine hS.st rfl rfl ?_; intro _ hS))
        rw [hfail]
        exact ⟨rfl, hS⟩
    · have hnx := numJ_next hJ hkt (by rw [← hct]; omega) (by rw [← hct]; exact h128)
      rw [← hct, ← hP, ← hcp] at hnx
      first
      | (exfalso; omega)
      | (repeat (first | refine SemW.run tblOk ?_ | refine jA (by omega) ?_ | refine jB (by omega) ?_ | refine jC (by omega) ?_ | refine jD (by omega) ?_ | refine jE rfl ?_ | refine jF (by omega) ?_ | (refine jG ?_; first | with_reducible (first | refine jH ?_ | refine jI ?_ | refine jJ ?_ | refine jK ?_ | refine jL ?_) | refine jM (by omega) ?_ | refine jN (by omega) ?_ | with_reducible refine jM rfl ?_ | refine jM (by assumption) ?_ | refine jN (by assumption) ?_ | refine jM (by decide) ?_ | refine jN (by decide) ?_) | refine jF (ptr_ok tblOk rfl rfl) ?_ | refine jO (fun _ => by kernel_rfl) ?_ | refine jF (by decide) ?_ | refine hS.ld rfl ?_ | refine hS.ldn rfl ?_ | (refine hS.st rfl rfl ?_; intro _ hS))
         rw [← hc]
         repeat (first | refine SemW.run tblOk ?_ | refine jA (by omega) ?_ | refine jB (by omega) ?_ | refine jC (by omega) ?_ | refine jD (by omega) ?_ | refine jE rfl ?_ | refine jF (by omega) ?_ | (refine jG ?_; first | with_reducible (first | refine jH ?_ | refine jI ?_ | refine jJ ?_ | refine jK ?_ | refine jL ?_) | refine jM (by omega) ?_ | refine jN (by omega) ?_ | with_reducible refine jM rfl ?_ | refine jM (by assumption) ?_ | refine jN (by assumption) ?_ | refine jM (by decide) ?_ | refine jN (by decide) ?_) | refine jF (ptr_ok tblOk rfl rfl) ?_ | refine jO (fun _ => by kernel_rfl) ?_ | refine jF (by decide) ?_ | refine hS.ld rfl ?_ | refine hS.ldn rfl ?_ | (refine hS.st rfl rfl ?_; intro _ hS))
         exact ⟨(i + 1, n + cp), ⟨rfl, rfl, rfl, trivial⟩, ⟨hnx, hS⟩, by simp only; omega⟩)
  · repeat (first | refine SemW.run tblOk ?_ | refine jA (by omega) ?_ | refine jB (by omega) ?_ | refine jC (by omega) ?_ | refine jD (by omega) ?_ | refine jE rfl ?_ | refine jF (by omega) ?_ | (refine jG ?_; first | with_reducible (first | refine jH ?_ | refine jI ?_ | refine jJ ?_ | refine jK ?_ | refine jL ?_) | refine jM (by omega) ?_ | refine jN (by omega) ?_ | with_reducible refine jM rfl ?_ | refine jM (by assumption) ?_ | refine jN (by assumption) ?_ | refine jM (by decide) ?_ | refine jN (by decide) ?_) | refine jF (ptr_ok tblOk rfl rfl) ?_ | refine jO (fun _ => by kernel_rfl) ?_ | refine jF (by decide) ?_ | refine hS.ld rfl ?_ | refine hS.ldn rfl ?_ | (refine hS.st rfl rfl ?_; intro _ hS))
    rw [← hc, ecm, hwm]
    repeat (first | refine SemW.run tblOk ?_ | refine jA (by omega) ?_ | refine jB (by omega) ?_ | refine jC (by omega) ?_ | refine jD (by omega) ?_ | refine jE rfl ?_ | refine jF (by omega) ?_ | (refine jG ?_; first | with_reducible (first | refine jH ?_ | refine jI ?_ | refine jJ ?_ | refine jK ?_ | refine jL ?_) | refine jM (by omega) ?_ | refine jN (by omega) ?_ | with_reducible refine jM rfl ?_ | refine jM (by assumption) ?_ | refine jN (by assumption) ?_ | refine jM (by decide) ?_ | refine jN (by decide) ?_) | refine jF (ptr_ok tblOk rfl rfl) ?_ | refine jO (fun _ => by kernel_rfl) ?_ | refine jF (by decide) ?_ | refine hS.ld rfl ?_ | refine hS.ldn rfl ?_ | (refine hS.st rfl rfl ?_; intro _ hS))
    refine SemW.loop (fun i : Nat => [(0, ptr b), (4, .int .u64 n), (5, .int .i64 k), (6, .int .u64 (c.toNat % 128 : Nat)), (7, .int .u64 (2 ^ (7 * i) : Nat)), (8, .int .i64 i)])
      (fun i w' => i ≤ k ∧ St w [b] [(b, rdC' t)] w') (fun i => k - i) 0
      ⟨rfl, rfl, rfl, rfl, rfl, rfl, trivial⟩ ⟨Nat.zero_le _, hS⟩ ?_
    rintro i w2 ⟨hi, hS⟩
    by_cases hik : i < k
    · have h2 : 2 ^ (7 * (i + 1)) = 2 ^ (7 * i) * 128 := by rw [show 7 * (i + 1) = 7 * i + 7 by omega, Nat.pow_add]
      have h3 : 2 ^ (7 * (i + 1)) ≤ P := by rw [hP]; exact Nat.pow_le_pow_right (by omega) (by omega)
      obtain ⟨U, hU⟩ : ∃ U, U = 2 ^ (7 * i) := ⟨_, rfl⟩
      rw [← hU] at h2 ⊢
      repeat (first | refine SemW.run tblOk ?_ | refine jA (by omega) ?_ | refine jB (by omega) ?_ | refine jC (by omega) ?_ | refine jD (by omega) ?_ | refine jE rfl ?_ | refine jF (by omega) ?_ | (refine jG ?_; first | with_reducible (first | refine jH ?_ | refine jI ?_ | refine jJ ?_ | refine jK ?_ | refine jL ?_) | refine jM (by omega) ?_ | refine jN (by omega) ?_ | with_reducible refine jM rfl ?_ | refine jM (by assumption) ?_ | refine jN (by assumption) ?_ | refine jM (by decide) ?_ | refine jN (by decide) ?_) | refine jF (ptr_ok tblOk rfl rfl) ?_ | refine jO (fun _ => by kernel_rfl) ?_ | refine jF (by decide) ?_ | refine hS.ld rfl ?_ | refine hS.ldn rfl ?_ | (refine hS.st rfl rfl ?_; intro _ hS))
      exact ⟨i + 1, ⟨rfl, rfl, rfl, rfl, congrArg (Value.int .u64) (by rw [h2]; omega), rfl, trivial⟩, ⟨by omega, hS⟩, by omega⟩
    have hik : i = k := by omega
    subst hik
    rw [← hP]
    repeat (first | refine SemW.run tblOk ?_ | refine jA (by omega) ?_ | refine jB (by omega) ?_ | refine jC (by omega) ?_ | refine jD (by omega) ?_ | refine jE rfl ?_ | refine jF (by omega) ?_ | (refine jG ?_; first | with_reducible (first | refine jH ?_ | refine jI ?_ | refine jJ ?_ | refine jK ?_ | refine jL ?_) | refine jM (by omega) ?_ | refine jN (by omega) ?_ | with_reducible refine jM rfl ?_ | refine jM (by assumption) ?_ | refine jN (by assumption) ?_ | refine jM (by decide) ?_ | refine jN (by decide) ?_) | refine jF (ptr_ok tblOk rfl rfl) ?_ | refine jO (fun _ => by kernel_rfl) ?_ | refine jF (by decide) ?_ | refine hS.ld rfl ?_ | refine hS.ldn rfl ?_ | (refine hS.st rfl rfl ?_; intro _ hS))
    rw [hcpi]
    by_cases h128 : c.toNat < 128
    · obtain ⟨hyes, hno⟩ := numJ_ref hJ hkt (by omega) (by rw [← hct]; exact hbad) (by rw [← hct]; exact h128)
      rw [← hct, ← hP, ← hcp] at hyes hno
      repeat (first | refine SemW.run tblOk ?_ | refine jA (by omega) ?_ | refine jB (by omega) ?_ | refine jC (by omega) ?_ | refine jD (by omega) ?_ | refine jE rfl ?_ | refine jF (by omega) ?_ | (refine jG ?_; first | with_reducible (first | refine jH ?_ | refine jI ?_ | refine jJ ?_ | refine jK ?_ | refine jL ?_) | refine jM (by omega) ?_ | refine jN (by omega) ?_ | with_reducible refine jM rfl ?_ | refine jM (by assumption) ?_ | refine jN (by assumption) ?_ | refine jM (by decide) ?_ | refine jN (by decide) ?_) | refine jF (ptr_ok tblOk rfl rfl) ?_ | refine jO (fun _ => by kernel_rfl) ?_ | refine jF (by decide) ?_ | refine hS.ld rfl ?_ | refine hS.ldn rfl ?_ | (refine hS.st rfl rfl ?_; intro _ hS))
      rw [← hc]
      by_cases he : numB (n + cp) = t.take (i + 1)
      · repeat (first | refine SemW.run tblOk ?_ | refine jA (by omega) ?_ | refine jB (by omega) ?_ | refine jC (by omega) ?_ | refine jD (by omega) ?_ | refine jE rfl ?_ | refine jF (by omega) ?_ | (refine jG ?_; first | with_reducible (first | refine jH ?_ | refine jI ?_ | refine jJ ?_ | refine jK ?_ | refine jL ?_) | refine jM (by omega) ?_ | refine jN (by omega) ?_ | with_reducible refine jM rfl ?_ | refine jM (by assumption) ?_ | refine jN (by assumption) ?_ | refine jM (by decide) ?_ | refine jN (by decide) ?_) | refine jF (ptr_ok tblOk rfl rfl) ?_ | refine jO (fun _ => by kernel_rfl) ?_ | refine jF (by decide) ?_ | refine hS.ld rfl ?_ | refine hS.ldn rfl ?_ | (refine hS.st rfl rfl ?_; intro _ hS))
        refine SemW.draw tblOk mixed (fun w' => St w [b] [(b, rdC' t)] w') [] [0, 2, 3, 4, 5, 6, 7, 8, 1, 9] (by kernel_rfl) hS.drew ?_
        have hS := hS.drew
        repeat (first | refine SemW.run tblOk ?_ | refine jA (by omega) ?_ | refine jB (by omega) ?_ | refine jC (by omega) ?_ | refine jD (by omega) ?_ | refine jE rfl ?_ | refine jF (by omega) ?_ | (refine jG ?_; first | with_reducible (first | refine jH ?_ | refine jI ?_ | refine jJ ?_ | refine jK ?_ | refine jL ?_) | refine jM (by omega) ?_ | refine jN (by omega) ?_ | with_reducible refine jM rfl ?_ | refine jM (by assumption) ?_ | refine jN (by assumption) ?_ | refine jM (by decide) ?_ | refine jN (by decide) ?_) | refine jF (ptr_ok tblOk rfl rfl) ?_ | refine jO (fun _ => by kernel_rfl) ?_ | refine jF (by decide) ?_ | refine hS.ldC rfl ?_ | refine hS.ldnC rfl ?_)
        rw [show (n : Int) + (cp : Int) = ((n + cp : Nat) : Int) by omega, ek]
        refine Cl.mono (NumE_spec (n + cp) hl7) ?_
        rintro _ w4 ⟨rfl, hS'⟩
        have hS := hS.call0 hS'
        refine Chk.mk hS ?_
        repeat (first | refine SemW.run tblOk ?_ | refine jA (by omega) ?_ | refine jB (by omega) ?_ | refine jC (by omega) ?_ | refine jD (by omega) ?_ | refine jE rfl ?_ | refine jF (by omega) ?_ | (refine jG ?_; first | with_reducible (first | refine jH ?_ | refine jI ?_ | refine jJ ?_ | refine jK ?_ | refine jL ?_) | refine jM (by omega) ?_ | refine jN (by omega) ?_ | with_reducible refine jM rfl ?_ | refine jM (by assumption) ?_ | refine jN (by assumption) ?_ | refine jM (by decide) ?_ | refine jN (by decide) ?_) | refine jF (ptr_ok tblOk rfl rfl) ?_ | refine jO (fun _ => by kernel_rfl) ?_ | refine jF (by decide) ?_ | refine hS.ld rfl ?_ | refine hS.ldn rfl ?_ | (refine hS.st rfl rfl ?_; intro _ hS))
        rw [hyes he]
        rw [ek] at hS
        exact ⟨rfl, hS⟩
      · repeat (first | refine SemW.run tblOk ?_ | refine jA (by omega) ?_ | refine jB (by omega) ?_ | refine jC (by omega) ?_ | refine jD (by omega) ?_ | refine jE rfl ?_ | refine jF (by omega) ?_ | (refine jG ?_; first | with_reducible (first | refine jH ?_ | refine jI ?_ | refine jJ ?_ | refine jK ?_ | refine jL ?_) | refine jM (by omega) ?_ | refine jN (by omega) ?_ | with_reducible refine jM rfl ?_ | refine jM (by assumption) ?_ | refine jN (by assumption) ?_ | refine jM (by decide) ?_ | refine jN (by decide) ?_) | refine jF (ptr_ok tblOk rfl rfl) ?_ | refine jO (fun _ => by kernel_rfl) ?_ | refine jF (by decide) ?_ | refine hS.ld rfl ?_ | refine hS.ldn rfl ?_ | (refine hS.st rfl rfl ?_; intro _ hS))
        refine SemW.draw tblOk mixed (fun w' => St w [b] [(b, rdC' t)] w') [] [0, 2, 3, 4, 5, 6, 7, 8, 1, 9] (by kernel_rfl) hS.drew ?_
        have hS := hS.drew
        repeat (first | refine SemW.run tblOk ?_ | refine jA (by omega) ?_ | refine jB (by omega) ?_ | refine jC (by omega) ?_ | refine jD (by omega) ?_ | refine jE rfl ?_ | refine jF (by omega) ?_ | (refine jG ?_; first | with_reducible (first | refine jH ?_ | refine jI ?_ | refine jJ ?_ | refine jK ?_ | refine jL ?_) | refine jM (by omega) ?_ | refine jN (by omega) ?_ | with_reducible refine jM rfl ?_ | refine jM (by assumption) ?_ | refine jN (by assumption) ?_ | refine jM (by decide) ?_ | refine jN (by decide) ?_) | refine jF (ptr_ok tblOk rfl rfl) ?_ | refine jO (fun _ => by kernel_rfl) ?_ | refine jF (by decide) ?_ | refine hS.ldC rfl ?_ | refine hS.ldnC rfl ?_)
        rw [show (n : Int) + (cp : Int) = ((n + cp : Nat) : Int) by omega, ek]
        refine Cl.mono (NumE_spec (n + cp) hl7) ?_
        rintro _ w4 ⟨rfl, hS'⟩
        have hS := hS.call0 hS'
        refine Chk.mk hS ?_
        have hfail := hno he
        repeat (first | refine SemW.run tblOk ?_ | refine jA (by omega) ?_ | refine jB (by omega) ?_ | refine jC (by omega) ?_ | refine jD (by omega) ?_ | refine jE rfl ?_ | refine jF (by omega) ?_ | (refine jG ?_; first | with_reducible (first | refine jH ?_ | refine jI ?_ | refine jJ ?_ | refine jK ?_ | refine jL ?_) | refine jM (by omega) ?_ | refine jN (by omega) ?_ | with_reducible refine jM rfl ?_ | refine jM (by assumption) ?_ | refine jN (by assumption) ?_ | refine jM (by decide) ?_ | refine jN (by decide) ?_) | refine jF (ptr_ok tblOk rfl rfl) ?_ | refine jO (fun _ => by kernel_rfl) ?_ | refine jF (by decide) ?_ | refine hS.ld rfl ?_ | refine hS.ldn rfl ?_ | (refine hS.st rfl rfl ?_; intro _ hS))
        rw [hfail]
        exact ⟨rfl, hS⟩
    · have hnx := numJ_next hJ hkt (by rw [← hct]; omega) (by rw [← hct]; exact h128)
      rw [← hct, ← hP, ← hcp] at hnx
      first
      | (exfalso; omega)
      | (repeat (first | refine SemW.run tblOk ?_ | refine jA (by omega) ?_ | refine jB (by omega) ?_ | refine jC (by omega) ?_ | refine jD (by omega) ?_ | refine jE rfl ?_ | refine jF (by omega) ?_ | (refine jG ?_; first | with_reducible (first | refine jH ?_ | refine jI ?_ | refine jJ ?_ | refine jK ?_ | refine jL ?_) | refine jM (by omega) ?_ | refine jN (by omega) ?_ | with_reducible refine jM rfl ?_ | refine jM (by assumption) ?_ | refine jN (by assumption) ?_ | refine jM (by decide) ?_ | refine jN (by decide) ?_) | refine jF (ptr_ok tblOk rfl rfl) ?_ | refine jO (fun _ => by kernel_rfl) ?_ | refine jF (by decide) ?_ | refine hS.ld rfl ?_ | refine hS.ldn rfl ?_ | (refine hS.st rfl rfl ?_; intro _ hS))
         rw [← hc]
         repeat (first | refine SemW.run tblOk ?_ | refine jA (by omega) ?_ | refine jB (by omega) ?_ | refine jC (by omega) ?_ | refine jD (by omega) ?_ | refine jE rfl ?_ | refine jF (by omega) ?_ | (refine jG ?_; first | with_reducible (first | refine jH ?_ | refine jI ?_ | refine jJ ?_ | refine jK ?_ | refine jL ?_) | refine jM (by omega) ?_ | refine jN (by omega) ?_ | with_reducible refine jM rfl ?_ | refine jM (by assumption) ?_ | refine jN (by assumption) ?_ | refine jM (by decide) ?_ | refine jN (by decide) ?_) | refine jF (ptr_ok tblOk rfl rfl) ?_ | refine jO (fun _ => by kernel_rfl) ?_ | refine jF (by decide) ?_ | refine hS.ld rfl ?_ | refine hS.ldn rfl ?_ | (refine hS.st rfl rfl ?_; intro _ hS))
         exact ⟨(i + 1, n + cp), ⟨rfl, rfl, rfl, trivial⟩, ⟨hnx, hS⟩, by simp only; omega⟩)
theorem Unfold_spec {w : World} (u : Nat) (hu : u < 18446744073709551616) : Cl Tryz.prog f_tarmacref01_Unfold [u64V u] w fun v w' => v = .int .i64 (unzig u) ∧ St w [] [] w' := by
  have hS := St.start w
  unfold u64V unzig
  have e1 : ((u : Int).tmod 2) = ((u % 2 : Nat) : Int) := tmodN u 2
  have e2 : ((u : Int).tdiv 2) = ((u / 2 : Nat) : Int) := tdivN u 2
  refine en_tarmacref01_Unfold rfl ?_
  by_cases h : u % 2 = 0
  · rw [if_pos h]
    repeat (first | refine SemW.run tblOk ?_ | refine jA (by omega) ?_ | refine jB (by omega) ?_ | refine jC (by omega) ?_ | refine jD (by omega) ?_ | refine jE rfl ?_ | refine jF (by omega) ?_ | (refine jG ?_; first | with_reducible (first | refine jH ?_ | refine jI ?_ | refine jJ ?_ | refine jK ?_ | refine jL ?_) | refine jM (by omega) ?_ | refine jN (by omega) ?_ | with_reducible refine jM rfl ?_ | refine jM (by assumption) ?_ | refine jN (by assumption) ?_ | refine jM (by decide) ?_ | refine jN (by decide) ?_) | refine jF (ptr_ok tblOk rfl rfl) ?_ | refine jO (fun _ => by kernel_rfl) ?_ | refine jF (by decide) ?_)
    rw [e1]
    repeat (first | refine SemW.run tblOk ?_ | refine jA (by omega) ?_ | refine jB (by omega) ?_ | refine jC (by omega) ?_ | refine jD (by omega) ?_ | refine jE rfl ?_ | refine jF (by omega) ?_ | (refine jG ?_; first | with_reducible (first | refine jH ?_ | refine jI ?_ | refine jJ ?_ | refine jK ?_ | refine jL ?_) | refine jM (by omega) ?_ | refine jN (by omega) ?_ | with_reducible refine jM rfl ?_ | refine jM (by assumption) ?_ | refine jN (by assumption) ?_ | refine jM (by decide) ?_ | refine jN (by decide) ?_) | refine jF (ptr_ok tblOk rfl rfl) ?_ | refine jO (fun _ => by kernel_rfl) ?_ | refine jF (by decide) ?_)
    rw [e2]
    repeat (first | refine SemW.run tblOk ?_ | refine jA (by omega) ?_ | refine jB (by omega) ?_ | refine jC (by omega) ?_ | refine jD (by omega) ?_ | refine jE rfl ?_ | refine jF (by omega) ?_ | (refine jG ?_; first | with_reducible (first | refine jH ?_ | refine jI ?_ | refine jJ ?_ | refine jK ?_ | refine jL ?_) | refine jM (by omega) ?_ | refine jN (by omega) ?_ | with_reducible refine jM rfl ?_ | refine jM (by assumption) ?_ | refine jN (by assumption) ?_ | refine jM (by decide) ?_ | refine jN (by decide) ?_) | refine jF (ptr_ok tblOk rfl rfl) ?_ | refine jO (fun _ => by kernel_rfl) ?_ | refine jF (by decide) ?_)
    exact ⟨rfl, hS⟩
  · rw [if_neg h]
    repeat (first | refine SemW.run tblOk ?_ | refine jA (by omega) ?_ | refine jB (by omega) ?_ | refine jC (by omega) ?_ | refine jD (by omega) ?_ | refine jE rfl ?_ | refine jF (by omega) ?_ | (refine jG ?_; first | with_reducible (first | refine jH ?_ | refine jI ?_ | refine jJ ?_ | refine jK ?_ | refine jL ?_) | refine jM (by omega) ?_ | refine jN (by omega) ?_ | with_reducible refine jM rfl ?_ | refine jM (by assumption) ?_ | refine jN (by assumption) ?_ | refine jM (by decide) ?_ | refine jN (by decide) ?_) | refine jF (ptr_ok tblOk rfl rfl) ?_ | refine jO (fun _ => by kernel_rfl) ?_ | refine jF (by decide) ?_)
    rw [e1]
    repeat (first | refine SemW.run tblOk ?_ | refine jA (by omega) ?_ | refine jB (by omega) ?_ | refine jC (by omega) ?_ | refine jD (by omega) ?_ | refine jE rfl ?_ | refine jF (by omega) ?_ | (refine jG ?_; first | with_reducible (first | refine jH ?_ | refine jI ?_ | refine jJ ?_ | refine jK ?_ | refine jL ?_) | refine jM (by omega) ?_ | refine jN (by omega) ?_ | with_reducible refine jM rfl ?_ | refine jM (by assumption) ?_ | refine jN (by assumption) ?_ | refine jM (by decide) ?_ | refine jN (by decide) ?_) | refine jF (ptr_ok tblOk rfl rfl) ?_ | refine jO (fun _ => by kernel_rfl) ?_ | refine jF (by decide) ?_)
    rw [e2]
    repeat (first | refine SemW.run tblOk ?_ | refine jA (by omega) ?_ | refine jB (by omega) ?_ | refine jC (by omega) ?_ | refine jD (by omega) ?_ | refine jE rfl ?_ | refine jF (by omega) ?_ | (refine jG ?_; first | with_reducible (first | refine jH ?_ | refine jI ?_ | refine jJ ?_ | refine jK ?_ | refine jL ?_) | refine jM (by omega) ?_ | refine jN (by omega) ?_ | with_reducible refine jM rfl ?_ | refine jM (by assumption) ?_ | refine jN (by assumption) ?_ | refine jM (by decide) ?_ | refine jN (by decide) ?_) | refine jF (ptr_ok tblOk rfl rfl) ?_ | refine jO (fun _ => by kernel_rfl) ?_ | refine jF (by decide) ?_)
    exact ⟨congrArg (Value.int .i64) (by omega), hS⟩
set_option maxHeartbeats 1000000 in
theorem RIntE_spec {w : World} {b : Nat} {t : Bytes} (hh : Holds [(b, rdC' t)] w) (ht : t.length ≤ 70368744177664) :
    Cl Tryz.prog f_tarmacref01_Reader_Int [ptr b] w fun v w' => v = .tuple ⟨[.int .i64 (intO t).1, .int .i64 (intO t).2.1]⟩ ∧ St w [b] [(b, rdC' (intO t).2.2)] w' := by
  refine en_tarmacref01_Reader_Int rfl ?_
  repeat (first | refine SemW.run tblOk ?_ | refine jA (by omega) ?_ | refine jB (by omega) ?_ | refine jC (by omega) ?_ | refine jD (by omega) ?_ | refine jE rfl ?_ | refine jF (by omega) ?_ | (refine jG ?_; first | with_reducible (first | refine jH ?_ | refine jI ?_ | refine jJ ?_ | refine jK ?_ | refine jL ?_) | refine jM (by omega) ?_ | refine jN (by omega) ?_ | with_reducible refine jM rfl ?_ | refine jM (by assumption) ?_ | refine jN (by assumption) ?_ | refine jM (by decide) ?_ | refine jN (by decide) ?_) | refine jF (ptr_ok tblOk rfl rfl) ?_ | refine jO (fun _ => by kernel_rfl) ?_ | refine jF (by decide) ?_)
  refine Cl.mono (RNumE_spec hh ht) ?_
  rintro _ w1 ⟨rfl, hS⟩
  have hlt := numO_lt t
  have h0 : (numO t).2.1 ≠ 0 → (numO t).1 = 0 := by
    unfold numO
    cases numR t with
    | none => intro _; rfl
    | some x => intro h; exact absurd rfl h
  unfold intO
  generalize numO t = x at hS hlt h0 ⊢
  obtain ⟨u, e, r⟩ := x
  simp only at hS hlt h0 ⊢
  by_cases he : e = 0
  · repeat (first | refine SemW.run tblOk ?_ | refine jA (by omega) ?_ | refine jB (by omega) ?_ | refine jC (by omega) ?_ | refine jD (by omega) ?_ | refine jE rfl ?_ | refine jF (by omega) ?_ | (refine jG ?_; first | with_reducible (first | refine jH ?_ | refine jI ?_ | refine jJ ?_ | refine jK ?_ | refine jL ?_) | refine jM (by omega) ?_ | refine jN (by omega) ?_ | with_reducible refine jM rfl ?_ | refine jM (by assumption) ?_ | refine jN (by assumption) ?_ | refine jM (by decide) ?_ | refine jN (by decide) ?_) | refine jF (ptr_ok tblOk rfl rfl) ?_ | refine jO (fun _ => by kernel_rfl) ?_ | refine jF (by decide) ?_)
    refine Cl.mono (Unfold_spec u hlt) ?_
    rintro _ w2 ⟨rfl, hS'⟩
    have hS := hS.call0 hS'
    repeat (first | refine SemW.run tblOk ?_ | refine jA (by omega) ?_ | refine jB (by omega) ?_ | refine jC (by omega) ?_ | refine jD (by omega) ?_ | refine jE rfl ?_ | refine jF (by omega) ?_ | (refine jG ?_; first | with_reducible (first | refine jH ?_ | refine jI ?_ | refine jJ ?_ | refine jK ?_ | refine jL ?_) | refine jM (by omega) ?_ | refine jN (by omega) ?_ | with_reducible refine jM rfl ?_ | refine jM (by assumption) ?_ | refine jN (by assumption) ?_ | refine jM (by decide) ?_ | refine jN (by decide) ?_) | refine jF (ptr_ok tblOk rfl rfl) ?_ | refine jO (fun _ => by kernel_rfl) ?_ | refine jF (by decide) ?_)
    rw [he]
    exact ⟨rfl, hS⟩
  · have hu := h0 he
    subst hu
    repeat (first | refine SemW.run tblOk ?_ | refine jA (by omega) ?_ | refine jB (by omega) ?_ | refine jC (by omega) ?_ | refine jD (by omega) ?_ | refine jE rfl ?_ | refine jF (by omega) ?_ | (refine jG ?_; first | with_reducible (first | refine jH ?_ | refine jI ?_ | refine jJ ?_ | refine jK ?_ | refine jL ?_) | refine jM (by omega) ?_ | refine jN (by omega) ?_ | with_reducible refine jM rfl ?_ | refine jM (by assumption) ?_ | refine jN (by assumption) ?_ | refine jM (by decide) ?_ | refine jN (by decide) ?_) | refine jF (ptr_ok tblOk rfl rfl) ?_ | refine jO (fun _ => by kernel_rfl) ?_ | refine jF (by decide) ?_)
    exact ⟨rfl, hS⟩
end Go.Proofs.YthpmmfapolcaiaaGreatDoor
