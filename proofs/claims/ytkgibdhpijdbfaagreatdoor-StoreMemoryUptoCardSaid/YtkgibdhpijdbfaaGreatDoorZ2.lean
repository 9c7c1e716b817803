/- Texts of this claim, one behind the other. -/
import Derived.Test.YtkgibdhpijdbfaaGreatDoorProg
import Derived.Test.YtkgibdhpijdbfaaGreatDoorZ1
set_option linter.unusedVariables false
set_option linter.unusedSimpArgs false
set_option maxHeartbeats 16000000
namespace Go.Proofs.YtkgibdhpijdbfaaGreatDoor
open Go Go.Eng Go.Proofs
def NL:BO:=[
 (1,⟨.fn,1,8,.nilFunc⟩),
 (2,⟨.int .i64,1,8,.int .i64 0⟩),
 (3,⟨.int .i64,1,8,.int .i64 0⟩),
 (4,⟨.bool,1,1,.bool false⟩),
 (5,⟨.int .u8,1,1,.int .u8 0⟩),
 (9,⟨.str,1,16,.string ⟨⟨[]⟩⟩⟩),
 (21,⟨.int .i32,1,4,.int .i32 0⟩),
 (22,⟨.slice 3 1,1,24,.slice none 0 0⟩),
 (24,⟨.struct [(0,1),(1,1),(2,1)],3,40,.agg ⟨[.int .i64 0,.int .i64 0,.slice none 0 0]⟩⟩),
 (25,⟨.slice 27 1,1,24,.slice none 0 0⟩),
 (27,⟨.slice 30 3,1,24,.slice none 0 0⟩),
 (30,⟨.struct [(0,1),(1,1),(2,1)],3,40,.agg ⟨[.string ⟨⟨[]⟩⟩,.bool false,.string ⟨⟨[]⟩⟩]⟩⟩),
 (31,⟨.ptr 63,1,8,.pointer none⟩),
 (33,⟨.int .i64,1,8,.int .i64 0⟩),
 (42,⟨.slice 49 7,1,24,.slice none 0 0⟩),
 (45,⟨.ptr 73,1,8,.pointer none⟩),
 (47,⟨.slice 75 2,1,24,.slice none 0 0⟩),
 (49,⟨.struct [(0,1),(1,1),(2,1),(3,1),(4,1),(5,1),(6,1)],7,120,.agg ⟨[.int .i64 0,.int .i64 0,.string ⟨⟨[]⟩⟩,.string ⟨⟨[]⟩⟩,.slice none 0 0,.slice none 0 0,.slice none 0 0]⟩⟩),
 (53,⟨.map 3 3,1,8,.map none⟩),
 (55,⟨.struct [(0,1),(1,1)],2,16,.agg ⟨[.int .i64 0,.map none]⟩⟩),
 (56,⟨.slice 149 2,1,24,.slice none 0 0⟩),
 (58,⟨.struct [(0,1),(1,1),(2,1),(3,1)],4,48,.agg ⟨[.slice none 0 0,.int .i64 0,.int .i64 0,.int .i64 0]⟩⟩),
 (59,⟨.ptr 170,1,8,.pointer none⟩),
 (60,⟨.ptr 115,1,8,.pointer none⟩),
 (61,⟨.map 3 137,1,8,.map none⟩),
 (63,⟨.struct [(0,2),(2,1),(3,3),(6,4),(10,1),(11,1),(12,1),(13,1),(14,1),(15,1)],16,160,.agg ⟨[.int .i64 0,.map none,.pointer none,.int .i64 0,.int .i64 0,.slice none 0 0,.slice none 0 0,.int .i64 0,.int .i64 0,.int .i64 0,.pointer none,.pointer none,.pointer none,.map none,.int .i64 0,.bool false]⟩⟩),
 (70,⟨.struct [(0,1),(1,1),(2,1),(3,1)],4,32,.agg ⟨[.map none,.int .i64 0,.int .i64 0,.bool false]⟩⟩),
 (71,⟨.map 9 124,1,8,.map none⟩),
 (73,⟨.struct [(0,4),(4,1)],5,40,.agg ⟨[.map none,.int .i64 0,.int .i64 0,.bool false,.map none]⟩⟩),
 (75,⟨.struct [(0,1),(1,1)],2,16,.agg ⟨[.int .i64 0,.int .i64 0]⟩⟩),
 (78,⟨.ptr 84,1,8,.pointer none⟩),
 (82,⟨.slice 4 1,1,24,.slice none 0 0⟩),
 (84,⟨.struct [(0,1),(1,1),(2,3),(5,1),(6,1),(7,1)],8,128,.agg ⟨[.pointer none,.pointer none,.int .i64 0,.int .i64 0,.slice none 0 0,.slice none 0 0,.slice none 0 0,.slice none 0 0]⟩⟩),
 (93,⟨.slice 9 1,1,24,.slice none 0 0⟩),
 (95,⟨.struct [(0,4),(4,1),(5,1)],6,80,.agg ⟨[.slice none 0 0,.int .i64 0,.int .i64 0,.int .i64 0,.map none,.slice none 0 0]⟩⟩),
 (107,⟨.struct [(0,1),(1,1)],2,16,.agg ⟨[.int .i64 0,.int .i64 0]⟩⟩),
 (109,⟨.struct [(0,1),(1,1),(2,1),(3,1)],4,48,.agg ⟨[.string ⟨⟨[]⟩⟩,.int .i64 0,.bool false,.string ⟨⟨[]⟩⟩]⟩⟩),
 (110,⟨.ptr 113,1,8,.pointer none⟩),
 (111,⟨.arr 8 110 1,8,64,.agg ⟨[.pointer none,.pointer none,.pointer none,.pointer none,.pointer none,.pointer none,.pointer none,.pointer none]⟩⟩),
 (113,⟨.struct [(0,4),(4,8)],12,112,.agg ⟨[.string ⟨⟨[]⟩⟩,.int .i64 0,.bool false,.string ⟨⟨[]⟩⟩,.pointer none,.pointer none,.pointer none,.pointer none,.pointer none,.pointer none,.pointer none,.pointer none]⟩⟩),
 (115,⟨.struct [(0,2),(2,12),(14,1),(15,1)],16,160,.agg ⟨[.int .i64 0,.int .i64 0,.string ⟨⟨[]⟩⟩,.int .i64 0,.bool false,.string ⟨⟨[]⟩⟩,.pointer none,.pointer none,.pointer none,.pointer none,.pointer none,.pointer none,.pointer none,.pointer none,.slice none 0 0,.int .i64 0]⟩⟩),
 (124,⟨.struct [(0,1),(1,1)],2,24,.agg ⟨[.string ⟨⟨[]⟩⟩,.int .i64 0]⟩⟩),
 (130,⟨.slice 109 4,1,24,.slice none 0 0⟩),
 (132,⟨.slice 130 1,1,24,.slice none 0 0⟩),
 (135,⟨.fn,1,8,.nilFunc⟩),
 (137,⟨.ptr 206,1,8,.pointer none⟩),
 (149,⟨.struct [(0,1),(1,1)],2,16,.agg ⟨[.int .i64 0,.int .i64 0]⟩⟩),
 (155,⟨.int .u64,1,8,.int .u64 0⟩),
 (156,⟨.ptr 228,1,8,.pointer none⟩),
 (159,⟨.int .u64,1,8,.int .u64 0⟩),
 (168,⟨.struct [(0,1)],1,8,.agg ⟨[.int .i64 0]⟩⟩),
 (170,⟨.struct [(0,1),(1,1),(2,1),(3,1),(4,1)],5,40,.agg ⟨[.int .i64 0,.pointer none,.string ⟨⟨[]⟩⟩,.bool false,.bool false]⟩⟩),
 (173,⟨.ptr 240,1,8,.pointer none⟩),
 (185,⟨.struct [(0,1),(1,1),(2,1),(3,1),(4,1)],5,72,.agg ⟨[.slice none 0 0,.slice none 0 0,.int .i64 0,.int .i64 0,.int .i64 0]⟩⟩),
 (188,⟨.ptr 191,1,8,.pointer none⟩),
 (189,⟨.slice 5 1,1,24,.slice none 0 0⟩),
 (191,⟨.struct [(0,1),(1,1)],2,32,.agg ⟨[.pointer none,.slice none 0 0]⟩⟩),
 (194,⟨.iface,1,16,.nilIface⟩),
 (201,⟨.fn,1,8,.nilFunc⟩),
 (204,⟨.struct [(0,1),(1,1)],2,16,.agg ⟨[.int .i64 0,.int .i64 0]⟩⟩),
 (206,⟨.struct [(0,2),(2,1),(3,1)],4,56,.agg ⟨[.int .i64 0,.int .i64 0,.slice none 0 0,.string ⟨⟨[]⟩⟩]⟩⟩),
 (211,⟨.fn,1,8,.nilFunc⟩),
 (213,⟨.fn,1,8,.nilFunc⟩),
 (228,⟨.struct [(0,1)],1,16,.agg ⟨[.string ⟨⟨[]⟩⟩]⟩⟩),
 (235,⟨.int .u32,1,4,.int .u32 0⟩),
 (238,⟨.struct [(0,1)],1,8,.agg ⟨[.int .i64 0]⟩⟩),
 (240,⟨.struct [(0,1),(1,1)],2,32,.agg ⟨[.int .i64 0,.slice none 0 0]⟩⟩),
 (241,⟨.slice 159 1,1,24,.slice none 0 0⟩),
 (252,⟨.ptr 5,1,8,.pointer none⟩),
 (255,⟨.fn,1,8,.nilFunc⟩),
 (261,⟨.fn,1,8,.nilFunc⟩),
 (270,⟨.ptr 272,1,8,.pointer none⟩),
 (272,⟨.struct [(0,1),(1,1)],2,16,.agg ⟨[.pointer none,.bool false]⟩⟩),
 (276,⟨.fn,1,8,.nilFunc⟩),
 (278,⟨.ptr 280,1,8,.pointer none⟩),
 (280,⟨.struct [(0,1),(1,1),(2,1)],3,32,.agg ⟨[.pointer none,.string ⟨⟨[]⟩⟩,.bool false]⟩⟩),
 (286,⟨.slice 185 5,1,24,.slice none 0 0⟩),
 (292,⟨.int .i64,1,8,.int .i64 0⟩),
 (303,⟨.arr 4 3 1,4,32,.agg ⟨[.int .i64 0,.int .i64 0,.int .i64 0,.int .i64 0]⟩⟩),
 (305,⟨.int .i64,1,8,.int .i64 0⟩),
 (308,⟨.ptr 331,1,8,.pointer none⟩),
 (314,⟨.fn,1,8,.nilFunc⟩),
 (315,⟨.ptr 317,1,8,.pointer none⟩),
 (317,⟨.struct [(0,1),(1,1)],2,24,.agg ⟨[.pointer none,.string ⟨⟨[]⟩⟩]⟩⟩),
 (321,⟨.int .u64,1,8,.int .u64 0⟩),
 (324,⟨.ptr 3,1,8,.pointer none⟩),
 (331,⟨.struct [(0,1),(1,1),(2,1)],3,48,.agg ⟨[.string ⟨⟨[]⟩⟩,.string ⟨⟨[]⟩⟩,.nilIface]⟩⟩),
 (333,⟨.arr 24 5 1,24,24,.agg ⟨[.int .u8 0,.int .u8 0,.int .u8 0,.int .u8 0,.int .u8 0,.int .u8 0,.int .u8 0,.int .u8 0,.int .u8 0,.int .u8 0,.int .u8 0,.int .u8 0,.int .u8 0,.int .u8 0,.int .u8 0,.int .u8 0,.int .u8 0,.int .u8 0,.int .u8 0,.int .u8 0,.int .u8 0,.int .u8 0,.int .u8 0,.int .u8 0]⟩⟩),
 (347,⟨.ptr 349,1,8,.pointer none⟩),
 (349,⟨.struct [(0,1)],1,16,.agg ⟨[.string ⟨⟨[]⟩⟩]⟩⟩),
 (352,⟨.arr 20 159 1,20,160,.agg ⟨[.int .u64 0,.int .u64 0,.int .u64 0,.int .u64 0,.int .u64 0,.int .u64 0,.int .u64 0,.int .u64 0,.int .u64 0,.int .u64 0,.int .u64 0,.int .u64 0,.int .u64 0,.int .u64 0,.int .u64 0,.int .u64 0,.int .u64 0,.int .u64 0,.int .u64 0,.int .u64 0]⟩⟩),
 (353,⟨.arr 65 5 1,65,65,.agg ⟨[.int .u8 0,.int .u8 0,.int .u8 0,.int .u8 0,.int .u8 0,.int .u8 0,.int .u8 0,.int .u8 0,.int .u8 0,.int .u8 0,.int .u8 0,.int .u8 0,.int .u8 0,.int .u8 0,.int .u8 0,.int .u8 0,.int .u8 0,.int .u8 0,.int .u8 0,.int .u8 0,.int .u8 0,.int .u8 0,.int .u8 0,.int .u8 0,.int .u8 0,.int .u8 0,.int .u8 0,.int .u8 0,.int .u8 0,.int .u8 0,.int .u8 0,.int .u8 0,.int .u8 0,.int .u8 0,.int .u8 0,.int .u8 0,.int .u8 0,.int .u8 0,.int .u8 0,.int .u8 0,.int .u8 0,.int .u8 0,.int .u8 0,.int .u8 0,.int .u8 0,.int .u8 0,.int .u8 0,.int .u8 0,.int .u8 0,.int .u8 0,.int .u8 0,.int .u8 0,.int .u8 0,.int .u8 0,.int .u8 0,.int .u8 0,.int .u8 0,.int .u8 0,.int .u8 0,.int .u8 0,.int .u8 0,.int .u8 0,.int .u8 0,.int .u8 0,.int .u8 0]⟩⟩),
 (359,⟨.arr 32 5 1,32,32,.agg ⟨[.int .u8 0,.int .u8 0,.int .u8 0,.int .u8 0,.int .u8 0,.int .u8 0,.int .u8 0,.int .u8 0,.int .u8 0,.int .u8 0,.int .u8 0,.int .u8 0,.int .u8 0,.int .u8 0,.int .u8 0,.int .u8 0,.int .u8 0,.int .u8 0,.int .u8 0,.int .u8 0,.int .u8 0,.int .u8 0,.int .u8 0,.int .u8 0,.int .u8 0,.int .u8 0,.int .u8 0,.int .u8 0,.int .u8 0,.int .u8 0,.int .u8 0,.int .u8 0]⟩⟩),
 (360,⟨.arr 64 5 1,64,64,.agg ⟨[.int .u8 0,.int .u8 0,.int .u8 0,.int .u8 0,.int .u8 0,.int .u8 0,.int .u8 0,.int .u8 0,.int .u8 0,.int .u8 0,.int .u8 0,.int .u8 0,.int .u8 0,.int .u8 0,.int .u8 0,.int .u8 0,.int .u8 0,.int .u8 0,.int .u8 0,.int .u8 0,.int .u8 0,.int .u8 0,.int .u8 0,.int .u8 0,.int .u8 0,.int .u8 0,.int .u8 0,.int .u8 0,.int .u8 0,.int .u8 0,.int .u8 0,.int .u8 0,.int .u8 0,.int .u8 0,.int .u8 0,.int .u8 0,.int .u8 0,.int .u8 0,.int .u8 0,.int .u8 0,.int .u8 0,.int .u8 0,.int .u8 0,.int .u8 0,.int .u8 0,.int .u8 0,.int .u8 0,.int .u8 0,.int .u8 0,.int .u8 0,.int .u8 0,.int .u8 0,.int .u8 0,.int .u8 0,.int .u8 0,.int .u8 0,.int .u8 0,.int .u8 0,.int .u8 0,.int .u8 0,.int .u8 0,.int .u8 0,.int .u8 0,.int .u8 0]⟩⟩)]
theorem AK:BX Tryz.prog NL:=
 .cons ⟨AD,⟨_,_,_,Tryz.underlying1⟩⟩ (
 .cons ⟨AD,Tryz.underlying2⟩ (
 .cons ⟨AD,Tryz.underlying3⟩ (
 .cons ⟨AD,Tryz.underlying4⟩ (
 .cons ⟨AD,Tryz.underlying5⟩ (
 .cons ⟨AD,Tryz.underlying9⟩ (
 .cons ⟨AD,Tryz.underlying21⟩ (
 .cons ⟨AD,⟨Tryz.underlying22,AD⟩⟩ (
 .cons ⟨AD,⟨_,Tryz.underlying24,AD⟩⟩ (
 .cons ⟨AD,⟨Tryz.underlying25,AD⟩⟩ (
 .cons ⟨AD,⟨Tryz.underlying27,AD⟩⟩ (
 .cons ⟨AD,⟨_,Tryz.underlying30,AD⟩⟩ (
 .cons ⟨AD,Tryz.underlying31⟩ (
 .cons ⟨AD,Tryz.underlying33⟩ (
 .cons ⟨AD,⟨Tryz.underlying42,AD⟩⟩ (
 .cons ⟨AD,Tryz.underlying45⟩ (
 .cons ⟨AD,⟨Tryz.underlying47,AD⟩⟩ (
 .cons ⟨AD,⟨_,Tryz.underlying49,AD⟩⟩ (
 .cons ⟨AD,Tryz.underlying53⟩ (
 .cons ⟨AD,⟨_,Tryz.underlying55,AD⟩⟩ (
 .cons ⟨AD,⟨Tryz.underlying56,AD⟩⟩ (
 .cons ⟨AD,⟨_,Tryz.underlying58,AD⟩⟩ (
 .cons ⟨AD,Tryz.underlying59⟩ (
 .cons ⟨AD,Tryz.underlying60⟩ (
 .cons ⟨AD,Tryz.underlying61⟩ (
 .cons ⟨AD,⟨_,Tryz.underlying63,AD⟩⟩ (
 .cons ⟨AD,⟨_,Tryz.underlying70,AD⟩⟩ (
 .cons ⟨AD,Tryz.underlying71⟩ (
 .cons ⟨AD,⟨_,Tryz.underlying73,AD⟩⟩ (
 .cons ⟨AD,⟨_,Tryz.underlying75,AD⟩⟩ (
 .cons ⟨AD,Tryz.underlying78⟩ (
 .cons ⟨AD,⟨Tryz.underlying82,AD⟩⟩ (
 .cons ⟨AD,⟨_,Tryz.underlying84,AD⟩⟩ (
 .cons ⟨AD,⟨Tryz.underlying93,AD⟩⟩ (
 .cons ⟨AD,⟨_,Tryz.underlying95,AD⟩⟩ (
 .cons ⟨AD,⟨_,Tryz.underlying107,AD⟩⟩ (
 .cons ⟨AD,⟨_,Tryz.underlying109,AD⟩⟩ (
 .cons ⟨AD,Tryz.underlying110⟩ (
 .cons ⟨AD,⟨Tryz.underlying111,AD⟩⟩ (
 .cons ⟨AD,⟨_,Tryz.underlying113,AD⟩⟩ (
 .cons ⟨AD,⟨_,Tryz.underlying115,AD⟩⟩ (
 .cons ⟨AD,⟨_,Tryz.underlying124,AD⟩⟩ (
 .cons ⟨AD,⟨Tryz.underlying130,AD⟩⟩ (
 .cons ⟨AD,⟨Tryz.underlying132,AD⟩⟩ (
 .cons ⟨AD,⟨_,_,_,Tryz.underlying135⟩⟩ (
 .cons ⟨AD,Tryz.underlying137⟩ (
 .cons ⟨AD,⟨_,Tryz.underlying149,AD⟩⟩ (
 .cons ⟨AD,Tryz.underlying155⟩ (
 .cons ⟨AD,Tryz.underlying156⟩ (
 .cons ⟨AD,Tryz.underlying159⟩ (
 .cons ⟨AD,⟨_,Tryz.underlying168,AD⟩⟩ (
 .cons ⟨AD,⟨_,Tryz.underlying170,AD⟩⟩ (
 .cons ⟨AD,Tryz.underlying173⟩ (
 .cons ⟨AD,⟨_,Tryz.underlying185,AD⟩⟩ (
 .cons ⟨AD,Tryz.underlying188⟩ (
 .cons ⟨AD,⟨Tryz.underlying189,AD⟩⟩ (
 .cons ⟨AD,⟨_,Tryz.underlying191,AD⟩⟩ (
 .cons ⟨AD,⟨_,Tryz.underlying194⟩⟩ (
 .cons ⟨AD,⟨_,_,_,Tryz.underlying201⟩⟩ (
 .cons ⟨AD,⟨_,Tryz.underlying204,AD⟩⟩ (
 .cons ⟨AD,⟨_,Tryz.underlying206,AD⟩⟩ (
 .cons ⟨AD,⟨_,_,_,Tryz.underlying211⟩⟩ (
 .cons ⟨AD,⟨_,_,_,Tryz.underlying213⟩⟩ (
 .cons ⟨AD,⟨_,Tryz.underlying228,AD⟩⟩ (
 .cons ⟨AD,Tryz.underlying235⟩ (
 .cons ⟨AD,⟨_,Tryz.underlying238,AD⟩⟩ (
 .cons ⟨AD,⟨_,Tryz.underlying240,AD⟩⟩ (
 .cons ⟨AD,⟨Tryz.underlying241,AD⟩⟩ (
 .cons ⟨AD,Tryz.underlying252⟩ (
 .cons ⟨AD,⟨_,_,_,Tryz.underlying255⟩⟩ (
 .cons ⟨AD,⟨_,_,_,Tryz.underlying261⟩⟩ (
 .cons ⟨AD,Tryz.underlying270⟩ (
 .cons ⟨AD,⟨_,Tryz.underlying272,AD⟩⟩ (
 .cons ⟨AD,⟨_,_,_,Tryz.underlying276⟩⟩ (
 .cons ⟨AD,Tryz.underlying278⟩ (
 .cons ⟨AD,⟨_,Tryz.underlying280,AD⟩⟩ (
 .cons ⟨AD,⟨Tryz.underlying286,AD⟩⟩ (
 .cons ⟨AD,Tryz.underlying292⟩ (
 .cons ⟨AD,⟨Tryz.underlying303,AD⟩⟩ (
 .cons ⟨AD,Tryz.underlying305⟩ (
 .cons ⟨AD,Tryz.underlying308⟩ (
 .cons ⟨AD,⟨_,_,_,Tryz.underlying314⟩⟩ (
 .cons ⟨AD,Tryz.underlying315⟩ (
 .cons ⟨AD,⟨_,Tryz.underlying317,AD⟩⟩ (
 .cons ⟨AD,Tryz.underlying321⟩ (
 .cons ⟨AD,Tryz.underlying324⟩ (
 .cons ⟨AD,⟨_,Tryz.underlying331,AD⟩⟩ (
 .cons ⟨AD,⟨Tryz.underlying333,AD⟩⟩ (
 .cons ⟨AD,Tryz.underlying347⟩ (
 .cons ⟨AD,⟨_,Tryz.underlying349,AD⟩⟩ (
 .cons ⟨AD,⟨Tryz.underlying352,AD⟩⟩ (
 .cons ⟨AD,⟨Tryz.underlying353,AD⟩⟩ (
 .cons ⟨AD,⟨Tryz.underlying359,AD⟩⟩ (
 .cons ⟨AD,⟨Tryz.underlying360,AD⟩⟩ (
 .nil))))))))))))))))))))))))))))))))))))))))))))))))))))))))))))))))))))))))))))))))))))))))))))))
theorem mixed:Tryz.prog.follows .mixedOrders=true:=AD
abbrev BP:Nat:=3
abbrev Jo:Nat:=4
abbrev GS:Nat:=5
abbrev C3:Nat:=9
abbrev TZ:Nat:=22
abbrev Pq:Nat:=24
abbrev TY:Nat:=27
abbrev Bn:Nat:=30
abbrev Pn:Nat:=31
abbrev Pp:Nat:=33
abbrev aF:Nat:=42
abbrev aE:Nat:=47
abbrev F0:Nat:=49
abbrev Nk:Nat:=53
abbrev Kc:Nat:=56
abbrev Ee:Nat:=58
abbrev IB:Nat:=61
abbrev Ta:Nat:=63
abbrev MM:Nat:=71
abbrev C4:Nat:=73
abbrev ML:Nat:=75
abbrev Tb:Nat:=84
abbrev Nj:Nat:=93
abbrev Jp:Nat:=95
abbrev Aq:Nat:=109
abbrev FM:Nat:=111
abbrev HF:Nat:=113
abbrev ET:Nat:=115
abbrev Jq:Nat:=124
abbrev GR:Nat:=130
abbrev BE:Nat:=149
abbrev MN:Nat:=170
abbrev TX:Nat:=173
abbrev Bu:Nat:=185
abbrev Ni:Nat:=188
abbrev MK:Nat:=189
abbrev Ef:Nat:=191
abbrev Pr:Nat:=206
abbrev DQ:Nat:=228
abbrev aH:Nat:=240
abbrev Po:Nat:=252
abbrev Cv:Nat:=270
abbrev DP:Nat:=272
abbrev aG:Nat:=280
abbrev aI:Nat:=287
abbrev TW:Nat:=303
abbrev Gi:Nat:=317
abbrev p4:Nat:=6
theorem ei{a:List Value}{w:World}{R:Value→World→Prop}{f:FuncId}{fn:Func}{N:Nat}{rs:List ResultVar}(hc: ∀(a:Array Value)(w:World),(callFunc f a).run Tryz.prog w= .ok (.enter f a) w)(hf:Tryz.prog.funcs[f]?=some fn)(hN:fn.ntmps=N)(hr:fn.results=⟨rs⟩)(hb:fn.body.isSome=true)(hl:Nat.ble a.length N=true)(h:AL Tryz.prog N (fn.body.getD .skip) (LP NL rs R) (HG 0 a) w):Cl Tryz.prog f a w R:=by
 cases hq:fn.body with
 |none=>rw[hq]at hb;cases hb
 |some c=>rw[hq]at h;exact Cl.enter AK hc hf hN hq hr hl h
abbrev j9{a w R}:=@ei a w R _ _ _ _ Tryz.call6 Tryz.func6 Tryz.ntmps6 Tryz.results6 rfl
abbrev p5:Nat:=7
abbrev kF{a w R}:=@ei a w R _ _ _ _ Tryz.call7 Tryz.func7 Tryz.ntmps7 Tryz.results7 rfl
abbrev qC:Nat:=9
abbrev kN{a w R}:=@ei a w R _ _ _ _ Tryz.call9 Tryz.func9 Tryz.ntmps9 Tryz.results9 rfl
abbrev qD:Nat:=10
abbrev kP{a w R}:=@ei a w R _ _ _ _ Tryz.call10 Tryz.func10 Tryz.ntmps10 Tryz.results10 rfl
abbrev OF:Nat:=12
abbrev iG{a w R}:=@ei a w R _ _ _ _ Tryz.call12 Tryz.func12 Tryz.ntmps12 Tryz.results12 rfl
abbrev qF:Nat:=13
abbrev kR{a w R}:=@ei a w R _ _ _ _ Tryz.call13 Tryz.func13 Tryz.ntmps13 Tryz.results13 rfl
abbrev VE:Nat:=14
abbrev kS{a w R}:=@ei a w R _ _ _ _ Tryz.call14 Tryz.func14 Tryz.ntmps14 Tryz.results14 rfl
abbrev Qd:Nat:=15
abbrev iE{a w R}:=@ei a w R _ _ _ _ Tryz.call15 Tryz.func15 Tryz.ntmps15 Tryz.results15 rfl
abbrev Qa:Nat:=16
abbrev iA{a w R}:=@ei a w R _ _ _ _ Tryz.call16 Tryz.func16 Tryz.ntmps16 Tryz.results16 rfl
abbrev qK:Nat:=17
abbrev lD{a w R}:=@ei a w R _ _ _ _ Tryz.call17 Tryz.func17 Tryz.ntmps17 Tryz.results17 rfl
abbrev OG:Nat:=18
abbrev iJ{a w R}:=@ei a w R _ _ _ _ Tryz.call18 Tryz.func18 Tryz.ntmps18 Tryz.results18 rfl
abbrev Qf:Nat:=19
abbrev iI{a w R}:=@ei a w R _ _ _ _ Tryz.call19 Tryz.func19 Tryz.ntmps19 Tryz.results19 rfl
abbrev U9:Nat:=20
abbrev iZ{a w R}:=@ei a w R _ _ _ _ Tryz.call20 Tryz.func20 Tryz.ntmps20 Tryz.results20 rfl
abbrev Qc:Nat:=21
abbrev iD{a w R}:=@ei a w R _ _ _ _ Tryz.call21 Tryz.func21 Tryz.ntmps21 Tryz.results21 rfl
abbrev Qb:Nat:=22
abbrev iB{a w R}:=@ei a w R _ _ _ _ Tryz.call22 Tryz.func22 Tryz.ntmps22 Tryz.results22 rfl
abbrev U3:Nat:=23
abbrev iH{a w R}:=@ei a w R _ _ _ _ Tryz.call23 Tryz.func23 Tryz.ntmps23 Tryz.results23 rfl
abbrev qG:Nat:=24
abbrev kT{a w R}:=@ei a w R _ _ _ _ Tryz.call24 Tryz.func24 Tryz.ntmps24 Tryz.results24 rfl
abbrev OE:Nat:=25
abbrev iC{a w R}:=@ei a w R _ _ _ _ Tryz.call25 Tryz.func25 Tryz.ntmps25 Tryz.results25 rfl
abbrev Qh:Nat:=26
abbrev lF{a w R}:=@ei a w R _ _ _ _ Tryz.call26 Tryz.func26 Tryz.ntmps26 Tryz.results26 rfl
abbrev VF:Nat:=27
abbrev kU{a w R}:=@ei a w R _ _ _ _ Tryz.call27 Tryz.func27 Tryz.ntmps27 Tryz.results27 rfl
abbrev p6:Nat:=28
abbrev kG{a w R}:=@ei a w R _ _ _ _ Tryz.call28 Tryz.func28 Tryz.ntmps28 Tryz.results28 rfl
abbrev qA:Nat:=29
abbrev Hh{a w R}:=@ei a w R _ _ _ _ Tryz.call29 Tryz.func29 Tryz.ntmps29 Tryz.results29 rfl
abbrev VC:Nat:=30
abbrev kI{a w R}:=@ei a w R _ _ _ _ Tryz.call30 Tryz.func30 Tryz.ntmps30 Tryz.results30 rfl
abbrev VN:Nat:=31
abbrev lG{a w R}:=@ei a w R _ _ _ _ Tryz.call31 Tryz.func31 Tryz.ntmps31 Tryz.results31 rfl
abbrev VB:Nat:=32
abbrev kH{a w R}:=@ei a w R _ _ _ _ Tryz.call32 Tryz.func32 Tryz.ntmps32 Tryz.results32 rfl
abbrev Qe:Nat:=33
abbrev iF{a w R}:=@ei a w R _ _ _ _ Tryz.call33 Tryz.func33 Tryz.ntmps33 Tryz.results33 rfl
abbrev pA:Nat:=34
abbrev iN{a w R}:=@ei a w R _ _ _ _ Tryz.call34 Tryz.func34 Tryz.ntmps34 Tryz.results34 rfl
abbrev U7:Nat:=35
abbrev iU{a w R}:=@ei a w R _ _ _ _ Tryz.call35 Tryz.func35 Tryz.ntmps35 Tryz.results35 rfl
abbrev U5:Nat:=36
abbrev iR{a w R}:=@ei a w R _ _ _ _ Tryz.call36 Tryz.func36 Tryz.ntmps36 Tryz.results36 rfl
abbrev oN:Nat:=37
abbrev gP{a w R}:=@ei a w R _ _ _ _ Tryz.call37 Tryz.func37 Tryz.ntmps37 Tryz.results37 rfl
abbrev Qg:Nat:=38
abbrev Ui{a w R}:=@ei a w R _ _ _ _ Tryz.call38 Tryz.func38 Tryz.ntmps38 Tryz.results38 rfl
abbrev nI:Nat:=39
abbrev fG{a w R}:=@ei a w R _ _ _ _ Tryz.call39 Tryz.func39 Tryz.ntmps39 Tryz.results39 rfl
abbrev pG:Nat:=40
abbrev iX{a w R}:=@ei a w R _ _ _ _ Tryz.call40 Tryz.func40 Tryz.ntmps40 Tryz.results40 rfl
abbrev pF:Nat:=41
abbrev iV{a w R}:=@ei a w R _ _ _ _ Tryz.call41 Tryz.func41 Tryz.ntmps41 Tryz.results41 rfl
abbrev pE:Nat:=42
abbrev iT{a w R}:=@ei a w R _ _ _ _ Tryz.call42 Tryz.func42 Tryz.ntmps42 Tryz.results42 rfl
abbrev pJ:Nat:=43
abbrev i7{a w R}:=@ei a w R _ _ _ _ Tryz.call43 Tryz.func43 Tryz.ntmps43 Tryz.results43 rfl
abbrev Qi:Nat:=44
abbrev lJ{a w R}:=@ei a w R _ _ _ _ Tryz.call44 Tryz.func44 Tryz.ntmps44 Tryz.results44 rfl
abbrev pI:Nat:=45
abbrev i6{a w R}:=@ei a w R _ _ _ _ Tryz.call45 Tryz.func45 Tryz.ntmps45 Tryz.results45 rfl
abbrev nR:Nat:=46
abbrev fP{a w R}:=@ei a w R _ _ _ _ Tryz.call46 Tryz.func46 Tryz.ntmps46 Tryz.results46 rfl
abbrev pC:Nat:=47
abbrev iQ{a w R}:=@ei a w R _ _ _ _ Tryz.call47 Tryz.func47 Tryz.ntmps47 Tryz.results47 rfl
abbrev U8:Nat:=48
abbrev iW{a w R}:=@ei a w R _ _ _ _ Tryz.call48 Tryz.func48 Tryz.ntmps48 Tryz.results48 rfl
abbrev o9:Nat:=49
abbrev iM{a w R}:=@ei a w R _ _ _ _ Tryz.call49 Tryz.func49 Tryz.ntmps49 Tryz.results49 rfl
abbrev o7:Nat:=50
abbrev iK{a w R}:=@ei a w R _ _ _ _ Tryz.call50 Tryz.func50 Tryz.ntmps50 Tryz.results50 rfl
abbrev qE:Nat:=51
abbrev kQ{a w R}:=@ei a w R _ _ _ _ Tryz.call51 Tryz.func51 Tryz.ntmps51 Tryz.results51 rfl
abbrev qL:Nat:=52
abbrev lE{a w R}:=@ei a w R _ _ _ _ Tryz.call52 Tryz.func52 Tryz.ntmps52 Tryz.results52 rfl
abbrev qM:Nat:=53
abbrev lH{a w R}:=@ei a w R _ _ _ _ Tryz.call53 Tryz.func53 Tryz.ntmps53 Tryz.results53 rfl
abbrev pS:Nat:=54
abbrev jW{a w R}:=@ei a w R _ _ _ _ Tryz.call54 Tryz.func54 Tryz.ntmps54 Tryz.results54 rfl
abbrev qN:Nat:=55
abbrev lI{a w R}:=@ei a w R _ _ _ _ Tryz.call55 Tryz.func55 Tryz.ntmps55 Tryz.results55 rfl
abbrev qB:Nat:=56
abbrev kM{a w R}:=@ei a w R _ _ _ _ Tryz.call56 Tryz.func56 Tryz.ntmps56 Tryz.results56 rfl
abbrev VD:Nat:=57
abbrev kO{a w R}:=@ei a w R _ _ _ _ Tryz.call57 Tryz.func57 Tryz.ntmps57 Tryz.results57 rfl
abbrev p7:Nat:=58
abbrev kJ{a w R}:=@ei a w R _ _ _ _ Tryz.call58 Tryz.func58 Tryz.ntmps58 Tryz.results58 rfl
abbrev p9:Nat:=59
abbrev kL{a w R}:=@ei a w R _ _ _ _ Tryz.call59 Tryz.func59 Tryz.ntmps59 Tryz.results59 rfl
abbrev p8:Nat:=60
abbrev kK{a w R}:=@ei a w R _ _ _ _ Tryz.call60 Tryz.func60 Tryz.ntmps60 Tryz.results60 rfl
abbrev VG:Nat:=61
abbrev kV{a w R}:=@ei a w R _ _ _ _ Tryz.call61 Tryz.func61 Tryz.ntmps61 Tryz.results61 rfl
abbrev nL:Nat:=62
abbrev fJ{a w R}:=@ei a w R _ _ _ _ Tryz.call62 Tryz.func62 Tryz.ntmps62 Tryz.results62 rfl
abbrev oV:Nat:=63
abbrev nD:Nat:=64
abbrev pW:Nat:=65
abbrev jZ{a w R}:=@ei a w R _ _ _ _ Tryz.call65 Tryz.func65 Tryz.ntmps65 Tryz.results65 rfl
abbrev nV:Nat:=66
abbrev fU{a w R}:=@ei a w R _ _ _ _ Tryz.call66 Tryz.func66 Tryz.ntmps66 Tryz.results66 rfl
abbrev nT:Nat:=67
abbrev fR{a w R}:=@ei a w R _ _ _ _ Tryz.call67 Tryz.func67 Tryz.ntmps67 Tryz.results67 rfl
abbrev nM:Nat:=68
abbrev fK{a w R}:=@ei a w R _ _ _ _ Tryz.call68 Tryz.func68 Tryz.ntmps68 Tryz.results68 rfl
abbrev pX:Nat:=69
abbrev j0{a w R}:=@ei a w R _ _ _ _ Tryz.call69 Tryz.func69 Tryz.ntmps69 Tryz.results69 rfl
abbrev VK:Nat:=70
abbrev kY{a w R}:=@ei a w R _ _ _ _ Tryz.call70 Tryz.func70 Tryz.ntmps70 Tryz.results70 rfl
abbrev mV:Nat:=71
abbrev eS{a w R}:=@ei a w R _ _ _ _ Tryz.call71 Tryz.func71 Tryz.ntmps71 Tryz.results71 rfl
abbrev mW:Nat:=72
abbrev eT{a w R}:=@ei a w R _ _ _ _ Tryz.call72 Tryz.func72 Tryz.ntmps72 Tryz.results72 rfl
abbrev mX:Nat:=73
abbrev eU{a w R}:=@ei a w R _ _ _ _ Tryz.call73 Tryz.func73 Tryz.ntmps73 Tryz.results73 rfl
abbrev pU:Nat:=74
abbrev jX{a w R}:=@ei a w R _ _ _ _ Tryz.call74 Tryz.func74 Tryz.ntmps74 Tryz.results74 rfl
abbrev OH:Nat:=75
abbrev Uj{a w R}:=@ei a w R _ _ _ _ Tryz.call75 Tryz.func75 Tryz.ntmps75 Tryz.results75 rfl
abbrev mU:Nat:=76
abbrev eQ{a w R}:=@ei a w R _ _ _ _ Tryz.call76 Tryz.func76 Tryz.ntmps76 Tryz.results76 rfl
abbrev n9:Nat:=77
abbrev gB{a w R}:=@ei a w R _ _ _ _ Tryz.call77 Tryz.func77 Tryz.ntmps77 Tryz.results77 rfl
abbrev oB:Nat:=78
abbrev gD{a w R}:=@ei a w R _ _ _ _ Tryz.call78 Tryz.func78 Tryz.ntmps78 Tryz.results78 rfl
abbrev oC:Nat:=79
abbrev gE{a w R}:=@ei a w R _ _ _ _ Tryz.call79 Tryz.func79 Tryz.ntmps79 Tryz.results79 rfl
abbrev oD:Nat:=80
abbrev gF{a w R}:=@ei a w R _ _ _ _ Tryz.call80 Tryz.func80 Tryz.ntmps80 Tryz.results80 rfl
abbrev oA:Nat:=81
abbrev gC{a w R}:=@ei a w R _ _ _ _ Tryz.call81 Tryz.func81 Tryz.ntmps81 Tryz.results81 rfl
abbrev nJ:Nat:=82
abbrev fH{a w R}:=@ei a w R _ _ _ _ Tryz.call82 Tryz.func82 Tryz.ntmps82 Tryz.results82 rfl
abbrev VO:Nat:=83
abbrev lK{a w R}:=@ei a w R _ _ _ _ Tryz.call83 Tryz.func83 Tryz.ntmps83 Tryz.results83 rfl
abbrev mT:Nat:=84
abbrev eP{a w R}:=@ei a w R _ _ _ _ Tryz.call84 Tryz.func84 Tryz.ntmps84 Tryz.results84 rfl
abbrev pH:Nat:=85
abbrev iY{a w R}:=@ei a w R _ _ _ _ Tryz.call85 Tryz.func85 Tryz.ntmps85 Tryz.results85 rfl
abbrev U4:Nat:=86
abbrev iP{a w R}:=@ei a w R _ _ _ _ Tryz.call86 Tryz.func86 Tryz.ntmps86 Tryz.results86 rfl
abbrev VL:Nat:=87
abbrev kZ{a w R}:=@ei a w R _ _ _ _ Tryz.call87 Tryz.func87 Tryz.ntmps87 Tryz.results87 rfl
abbrev o8:Nat:=88
abbrev iL{a w R}:=@ei a w R _ _ _ _ Tryz.call88 Tryz.func88 Tryz.ntmps88 Tryz.results88 rfl
abbrev mJ:Nat:=89
abbrev eE{a w R}:=@ei a w R _ _ _ _ Tryz.call89 Tryz.func89 Tryz.ntmps89 Tryz.results89 rfl
abbrev qH:Nat:=90
abbrev lA{a w R}:=@ei a w R _ _ _ _ Tryz.call90 Tryz.func90 Tryz.ntmps90 Tryz.results90 rfl
abbrev n8:Nat:=91
abbrev gA{a w R}:=@ei a w R _ _ _ _ Tryz.call91 Tryz.func91 Tryz.ntmps91 Tryz.results91 rfl
abbrev oF:Nat:=92
abbrev gH{a w R}:=@ei a w R _ _ _ _ Tryz.call92 Tryz.func92 Tryz.ntmps92 Tryz.results92 rfl
abbrev oG:Nat:=93
abbrev gI{a w R}:=@ei a w R _ _ _ _ Tryz.call93 Tryz.func93 Tryz.ntmps93 Tryz.results93 rfl
abbrev oH:Nat:=94
abbrev gJ{a w R}:=@ei a w R _ _ _ _ Tryz.call94 Tryz.func94 Tryz.ntmps94 Tryz.results94 rfl
abbrev oE:Nat:=95
abbrev gG{a w R}:=@ei a w R _ _ _ _ Tryz.call95 Tryz.func95 Tryz.ntmps95 Tryz.results95 rfl
abbrev U6:Nat:=96
abbrev nK:Nat:=97
abbrev fI{a w R}:=@ei a w R _ _ _ _ Tryz.call97 Tryz.func97 Tryz.ntmps97 Tryz.results97 rfl
abbrev pB:Nat:=98
abbrev iO{a w R}:=@ei a w R _ _ _ _ Tryz.call98 Tryz.func98 Tryz.ntmps98 Tryz.results98 rfl
abbrev VH:Nat:=99
abbrev kW{a w R}:=@ei a w R _ _ _ _ Tryz.call99 Tryz.func99 Tryz.ntmps99 Tryz.results99 rfl
abbrev pV:Nat:=100
abbrev jY{a w R}:=@ei a w R _ _ _ _ Tryz.call100 Tryz.func100 Tryz.ntmps100 Tryz.results100 rfl
abbrev oO:Nat:=101
abbrev gQ{a w R}:=@ei a w R _ _ _ _ Tryz.call101 Tryz.func101 Tryz.ntmps101 Tryz.results101 rfl
abbrev nH:Nat:=102
abbrev fE{a w R}:=@ei a w R _ _ _ _ Tryz.call102 Tryz.func102 Tryz.ntmps102 Tryz.results102 rfl
abbrev nU:Nat:=103
abbrev fT{a w R}:=@ei a w R _ _ _ _ Tryz.call103 Tryz.func103 Tryz.ntmps103 Tryz.results103 rfl
abbrev pM:Nat:=104
abbrev jQ{a w R}:=@ei a w R _ _ _ _ Tryz.call104 Tryz.func104 Tryz.ntmps104 Tryz.results104 rfl
abbrev pO:Nat:=105
abbrev jS{a w R}:=@ei a w R _ _ _ _ Tryz.call105 Tryz.func105 Tryz.ntmps105 Tryz.results105 rfl
abbrev pN:Nat:=106
abbrev jR{a w R}:=@ei a w R _ _ _ _ Tryz.call106 Tryz.func106 Tryz.ntmps106 Tryz.results106 rfl
abbrev qJ:Nat:=107
abbrev lC{a w R}:=@ei a w R _ _ _ _ Tryz.call107 Tryz.func107 Tryz.ntmps107 Tryz.results107 rfl
abbrev nS:Nat:=108
abbrev fQ{a w R}:=@ei a w R _ _ _ _ Tryz.call108 Tryz.func108 Tryz.ntmps108 Tryz.results108 rfl
abbrev nO:Nat:=109
abbrev fM{a w R}:=@ei a w R _ _ _ _ Tryz.call109 Tryz.func109 Tryz.ntmps109 Tryz.results109 rfl
abbrev nE:Nat:=111
abbrev oL:Nat:=112
abbrev gN{a w R}:=@ei a w R _ _ _ _ Tryz.call112 Tryz.func112 Tryz.ntmps112 Tryz.results112 rfl
abbrev pZ:Nat:=113
abbrev j6{a w R}:=@ei a w R _ _ _ _ Tryz.call113 Tryz.func113 Tryz.ntmps113 Tryz.results113 rfl
abbrev nX:Nat:=114
abbrev fW{a w R}:=@ei a w R _ _ _ _ Tryz.call114 Tryz.func114 Tryz.ntmps114 Tryz.results114 rfl
abbrev nY:Nat:=115
abbrev fX{a w R}:=@ei a w R _ _ _ _ Tryz.call115 Tryz.func115 Tryz.ntmps115 Tryz.results115 rfl
abbrev oQ:Nat:=116
abbrev gS{a w R}:=@ei a w R _ _ _ _ Tryz.call116 Tryz.func116 Tryz.ntmps116 Tryz.results116 rfl
abbrev Uw:Nat:=117
abbrev Uc{a w R}:=@ei a w R _ _ _ _ Tryz.call117 Tryz.func117 Tryz.ntmps117 Tryz.results117 rfl
abbrev nW:Nat:=118
abbrev fV{a w R}:=@ei a w R _ _ _ _ Tryz.call118 Tryz.func118 Tryz.ntmps118 Tryz.results118 rfl
abbrev oP:Nat:=119
abbrev gR{a w R}:=@ei a w R _ _ _ _ Tryz.call119 Tryz.func119 Tryz.ntmps119 Tryz.results119 rfl
abbrev QX:Nat:=120
abbrev fS{a w R}:=@ei a w R _ _ _ _ Tryz.call120 Tryz.func120 Tryz.ntmps120 Tryz.results120 rfl
abbrev pY:Nat:=121
abbrev j5{a w R}:=@ei a w R _ _ _ _ Tryz.call121 Tryz.func121 Tryz.ntmps121 Tryz.results121 rfl
abbrev qI:Nat:=122
abbrev lB{a w R}:=@ei a w R _ _ _ _ Tryz.call122 Tryz.func122 Tryz.ntmps122 Tryz.results122 rfl
abbrev pK:Nat:=123
abbrev pL:Nat:=124
abbrev mH:Nat:=125
abbrev eC{a w R}:=@ei a w R _ _ _ _ Tryz.call125 Tryz.func125 Tryz.ntmps125 Tryz.results125 rfl
abbrev mR:Nat:=126
abbrev eK{a w R}:=@ei a w R _ _ _ _ Tryz.call126 Tryz.func126 Tryz.ntmps126 Tryz.results126 rfl
abbrev mZ:Nat:=127
abbrev eW{a w R}:=@ei a w R _ _ _ _ Tryz.call127 Tryz.func127 Tryz.ntmps127 Tryz.results127 rfl
abbrev mI:Nat:=128
abbrev eD{a w R}:=@ei a w R _ _ _ _ Tryz.call128 Tryz.func128 Tryz.ntmps128 Tryz.results128 rfl
abbrev lU:Nat:=129
abbrev dL{a w R}:=@ei a w R _ _ _ _ Tryz.call129 Tryz.func129 Tryz.ntmps129 Tryz.results129 rfl
abbrev pT:Nat:=130
abbrev nN:Nat:=131
abbrev fL{a w R}:=@ei a w R _ _ _ _ Tryz.call131 Tryz.func131 Tryz.ntmps131 Tryz.results131 rfl
abbrev nQ:Nat:=132
abbrev fO{a w R}:=@ei a w R _ _ _ _ Tryz.call132 Tryz.func132 Tryz.ntmps132 Tryz.results132 rfl
abbrev nP:Nat:=133
abbrev fN{a w R}:=@ei a w R _ _ _ _ Tryz.call133 Tryz.func133 Tryz.ntmps133 Tryz.results133 rfl
abbrev mY:Nat:=134
abbrev eV{a w R}:=@ei a w R _ _ _ _ Tryz.call134 Tryz.func134 Tryz.ntmps134 Tryz.results134 rfl
abbrev mS:Nat:=135
abbrev eO{a w R}:=@ei a w R _ _ _ _ Tryz.call135 Tryz.func135 Tryz.ntmps135 Tryz.results135 rfl
abbrev VJ:Nat:=136
abbrev kX{a w R}:=@ei a w R _ _ _ _ Tryz.call136 Tryz.func136 Tryz.ntmps136 Tryz.results136 rfl
abbrev mL:Nat:=137
abbrev eG{a w R}:=@ei a w R _ _ _ _ Tryz.call137 Tryz.func137 Tryz.ntmps137 Tryz.results137 rfl
abbrev mK:Nat:=138
abbrev eF{a w R}:=@ei a w R _ _ _ _ Tryz.call138 Tryz.func138 Tryz.ntmps138 Tryz.results138 rfl
abbrev oI:Nat:=139
abbrev gK{a w R}:=@ei a w R _ _ _ _ Tryz.call139 Tryz.func139 Tryz.ntmps139 Tryz.results139 rfl
abbrev oK:Nat:=140
abbrev gL{a w R}:=@ei a w R _ _ _ _ Tryz.call140 Tryz.func140 Tryz.ntmps140 Tryz.results140 rfl
abbrev mQ:Nat:=141
abbrev eJ{a w R}:=@ei a w R _ _ _ _ Tryz.call141 Tryz.func141 Tryz.ntmps141 Tryz.results141 rfl
abbrev pD:Nat:=142
abbrev iS{a w R}:=@ei a w R _ _ _ _ Tryz.call142 Tryz.func142 Tryz.ntmps142 Tryz.results142 rfl
abbrev nC:Nat:=143
abbrev fD{a w R}:=@ei a w R _ _ _ _ Tryz.call143 Tryz.func143 Tryz.ntmps143 Tryz.results143 rfl
abbrev oJ:Nat:=144
abbrev OD:Nat:=145
abbrev fF{a w R}:=@ei a w R _ _ _ _ Tryz.call145 Tryz.func145 Tryz.ntmps145 Tryz.results145 rfl
abbrev nZ:Nat:=146
abbrev fZ{a w R}:=@ei a w R _ _ _ _ Tryz.call146 Tryz.func146 Tryz.ntmps146 Tryz.results146 rfl
abbrev pP:Nat:=147
abbrev jT{a w R}:=@ei a w R _ _ _ _ Tryz.call147 Tryz.func147 Tryz.ntmps147 Tryz.results147 rfl
abbrev pQ:Nat:=148
abbrev jU{a w R}:=@ei a w R _ _ _ _ Tryz.call148 Tryz.func148 Tryz.ntmps148 Tryz.results148 rfl
abbrev oW:Nat:=149
abbrev nF:Nat:=150
abbrev o6:Nat:=153
abbrev hZ{a w R}:=@ei a w R _ _ _ _ Tryz.call153 Tryz.func153 Tryz.ntmps153 Tryz.results153 rfl
abbrev VA:Nat:=154
abbrev j7{a w R}:=@ei a w R _ _ _ _ Tryz.call154 Tryz.func154 Tryz.ntmps154 Tryz.results154 rfl
abbrev oT:Nat:=155
abbrev gV{a w R}:=@ei a w R _ _ _ _ Tryz.call155 Tryz.func155 Tryz.ntmps155 Tryz.results155 rfl
abbrev Uu:Nat:=156
abbrev fY{a w R}:=@ei a w R _ _ _ _ Tryz.call156 Tryz.func156 Tryz.ntmps156 Tryz.results156 rfl
abbrev oS:Nat:=157
abbrev gU{a w R}:=@ei a w R _ _ _ _ Tryz.call157 Tryz.func157 Tryz.ntmps157 Tryz.results157 rfl
abbrev U0:Nat:=158
abbrev Ug{a w R}:=@ei a w R _ _ _ _ Tryz.call158 Tryz.func158 Tryz.ntmps158 Tryz.results158 rfl
abbrev mF:Nat:=159
abbrev dZ{a w R}:=@ei a w R _ _ _ _ Tryz.call159 Tryz.func159 Tryz.ntmps159 Tryz.results159 rfl
abbrev pR:Nat:=160
abbrev jV{a w R}:=@ei a w R _ _ _ _ Tryz.call160 Tryz.func160 Tryz.ntmps160 Tryz.results160 rfl
abbrev mE:Nat:=161
abbrev dY{a w R}:=@ei a w R _ _ _ _ Tryz.call161 Tryz.func161 Tryz.ntmps161 Tryz.results161 rfl
abbrev mC:Nat:=162
abbrev dW{a w R}:=@ei a w R _ _ _ _ Tryz.call162 Tryz.func162 Tryz.ntmps162 Tryz.results162 rfl
abbrev mM:Nat:=166
abbrev eH{a w R}:=@ei a w R _ _ _ _ Tryz.call166 Tryz.func166 Tryz.ntmps166 Tryz.results166 rfl
abbrev Ut:Nat:=167
abbrev Ub{a w R}:=@ei a w R _ _ _ _ Tryz.call167 Tryz.func167 Tryz.ntmps167 Tryz.results167 rfl
abbrev QW:Nat:=168
abbrev eM{a w R}:=@ei a w R _ _ _ _ Tryz.call168 Tryz.func168 Tryz.ntmps168 Tryz.results168 rfl
abbrev m5:Nat:=169
abbrev eY{a w R}:=@ei a w R _ _ _ _ Tryz.call169 Tryz.func169 Tryz.ntmps169 Tryz.results169 rfl
abbrev OC:Nat:=170
abbrev eN{a w R}:=@ei a w R _ _ _ _ Tryz.call170 Tryz.func170 Tryz.ntmps170 Tryz.results170 rfl
abbrev m8:Nat:=171
abbrev eZ{a w R}:=@ei a w R _ _ _ _ Tryz.call171 Tryz.func171 Tryz.ntmps171 Tryz.results171 rfl
abbrev oR:Nat:=172
abbrev gT{a w R}:=@ei a w R _ _ _ _ Tryz.call172 Tryz.func172 Tryz.ntmps172 Tryz.results172 rfl
abbrev Us:Nat:=173
abbrev eX{a w R}:=@ei a w R _ _ _ _ Tryz.call173 Tryz.func173 Tryz.ntmps173 Tryz.results173 rfl
abbrev nA:Nat:=174
abbrev fA{a w R}:=@ei a w R _ _ _ _ Tryz.call174 Tryz.func174 Tryz.ntmps174 Tryz.results174 rfl
abbrev lY:Nat:=175
abbrev dP{a w R}:=@ei a w R _ _ _ _ Tryz.call175 Tryz.func175 Tryz.ntmps175 Tryz.results175 rfl
abbrev lX:Nat:=176
abbrev dO{a w R}:=@ei a w R _ _ _ _ Tryz.call176 Tryz.func176 Tryz.ntmps176 Tryz.results176 rfl
abbrev l6:Nat:=177
abbrev dR{a w R}:=@ei a w R _ _ _ _ Tryz.call177 Tryz.func177 Tryz.ntmps177 Tryz.results177 rfl
abbrev lV:Nat:=178
abbrev dM{a w R}:=@ei a w R _ _ _ _ Tryz.call178 Tryz.func178 Tryz.ntmps178 Tryz.results178 rfl
abbrev mA:Nat:=179
abbrev dU{a w R}:=@ei a w R _ _ _ _ Tryz.call179 Tryz.func179 Tryz.ntmps179 Tryz.results179 rfl
abbrev p3:Nat:=180
abbrev j8{a w R}:=@ei a w R _ _ _ _ Tryz.call180 Tryz.func180 Tryz.ntmps180 Tryz.results180 rfl
abbrev oM:Nat:=181
abbrev gO{a w R}:=@ei a w R _ _ _ _ Tryz.call181 Tryz.func181 Tryz.ntmps181 Tryz.results181 rfl
abbrev Uv:Nat:=182
abbrev gM{a w R}:=@ei a w R _ _ _ _ Tryz.call182 Tryz.func182 Tryz.ntmps182 Tryz.results182 rfl
abbrev mN:Nat:=183
theorem rM:Tryz.prog.funcs[183]?=some Tryz.f183:=Tryz.func183
abbrev mO:Nat:=184
theorem rN:Tryz.prog.funcs[184]?=some Tryz.f184:=Tryz.func184
abbrev nG:Nat:=187
abbrev Uy:Nat:=199
abbrev Ue{a w R}:=@ei a w R _ _ _ _ Tryz.call199 Tryz.func199 Tryz.ntmps199 Tryz.results199 rfl
abbrev QY:Nat:=200
abbrev QR{a w R}:=@ei a w R _ _ _ _ Tryz.call200 Tryz.func200 Tryz.ntmps200 Tryz.results200 rfl
abbrev eI{a w R}:=@ei a w R _ _ _ _ Tryz.call201 Tryz.func201 Tryz.ntmps201 Tryz.results201 rfl
abbrev mG:Nat:=202
abbrev eB{a w R}:=@ei a w R _ _ _ _ Tryz.call202 Tryz.func202 Tryz.ntmps202 Tryz.results202 rfl
abbrev mD:Nat:=203
abbrev dX{a w R}:=@ei a w R _ _ _ _ Tryz.call203 Tryz.func203 Tryz.ntmps203 Tryz.results203 rfl
abbrev oU:Nat:=210
abbrev gW{a w R}:=@ei a w R _ _ _ _ Tryz.call210 Tryz.func210 Tryz.ntmps210 Tryz.results210 rfl
abbrev Ux:Nat:=211
abbrev Ud{a w R}:=@ei a w R _ _ _ _ Tryz.call211 Tryz.func211 Tryz.ntmps211 Tryz.results211 rfl
abbrev nB:Nat:=212
abbrev fB{a w R}:=@ei a w R _ _ _ _ Tryz.call212 Tryz.func212 Tryz.ntmps212 Tryz.results212 rfl
abbrev lZ:Nat:=213
abbrev dQ{a w R}:=@ei a w R _ _ _ _ Tryz.call213 Tryz.func213 Tryz.ntmps213 Tryz.results213 rfl
abbrev lW:Nat:=214
abbrev dN{a w R}:=@ei a w R _ _ _ _ Tryz.call214 Tryz.func214 Tryz.ntmps214 Tryz.results214 rfl
abbrev l9:Nat:=215
abbrev dS{a w R}:=@ei a w R _ _ _ _ Tryz.call215 Tryz.func215 Tryz.ntmps215 Tryz.results215 rfl
abbrev oX:Nat:=223
abbrev gX{a w R}:=@ei a w R _ _ _ _ Tryz.call223 Tryz.func223 Tryz.ntmps223 Tryz.results223 rfl
abbrev mP:Nat:=224
theorem rO:Tryz.prog.funcs[224]?=some Tryz.f224:=Tryz.func224
abbrev mB:Nat:=225
abbrev dV{a w R}:=@ei a w R _ _ _ _ Tryz.call225 Tryz.func225 Tryz.ntmps225 Tryz.results225 rfl
abbrev U2:Nat:=233
abbrev Uh{a w R}:=@ei a w R _ _ _ _ Tryz.call233 Tryz.func233 Tryz.ntmps233 Tryz.results233 rfl
abbrev oZ:Nat:=244
abbrev gZ{a w R}:=@ei a w R _ _ _ _ Tryz.call244 Tryz.func244 Tryz.ntmps244 Tryz.results244 rfl
abbrev Uz:Nat:=251
abbrev Uf{a w R}:=@ei a w R _ _ _ _ Tryz.call251 Tryz.func251 Tryz.ntmps251 Tryz.results251 rfl
abbrev QZ:Nat:=252
abbrev QS{a w R}:=@ei a w R _ _ _ _ Tryz.call252 Tryz.func252 Tryz.ntmps252 Tryz.results252 rfl
abbrev oY:Nat:=259
abbrev gY{a w R}:=@ei a w R _ _ _ _ Tryz.call259 Tryz.func259 Tryz.ntmps259 Tryz.results259 rfl
abbrev o4:Nat:=261
abbrev g9{a w R}:=@ei a w R _ _ _ _ Tryz.call261 Tryz.func261 Tryz.ntmps261 Tryz.results261 rfl
end Go.Proofs.YtkgibdhpijdbfaaGreatDoor
