/- Texts of this claim, one behind the other. -/
import Derived.Test.YthpmmfapolcaiaaDoorProg
import Derived.Test.YthpmmfapolcaiaaDoorZ0
import Derived.Laws.IdiomStrings
import Derived.Test.YthpmmfapolcaiaaDoorRows
import Derived.WalkKit
import Derived.ProofKit
import Derived.OpenShut
import Derived.Carry
import Derived.SliceStrings
import Derived.JoinedCond
import Derived.Deep.Slices
/- MADE BY PROGRAM (gen.py) out of this seat's translation: the types' table with its proof, the functions' and types' numbers under names, each function's way in. No statement of the seat is here. -/
namespace Go.Proofs.YthpmmfapolcaiaaDoor
open Go Go.Eng Go.Proofs

def tbl : Tbl := [
  (2, ⟨.int .i64, 1, 8, .int .i64 0⟩),
  (3, ⟨.int .i64, 1, 8, .int .i64 0⟩),
  (4, ⟨.bool, 1, 1, .bool false⟩),
  (5, ⟨.int .u8, 1, 1, .int .u8 0⟩),
  (9, ⟨.str, 1, 16, .string ⟨⟨[]⟩⟩⟩),
  (21, ⟨.int .i32, 1, 4, .int .i32 0⟩),
  (23, ⟨.struct [(0, 1), (1, 1), (2, 1)], 3, 16, .agg ⟨[.int .i64 0, .bool false, .bool false]⟩⟩),
  (25, ⟨.struct [(0, 1), (1, 1)], 2, 16, .agg ⟨[.int .i64 0, .int .u8 0]⟩⟩),
  (26, ⟨.slice 38 5, 1, 24, .slice none 0 0⟩),
  (27, ⟨.arr 4 3 1, 4, 32, .agg ⟨[.int .i64 0, .int .i64 0, .int .i64 0, .int .i64 0]⟩⟩),
  (29, ⟨.struct [(0, 1), (1, 1), (2, 1), (3, 1), (4, 1), (5, 1), (6, 3), (9, 1), (10, 1), (11, 2), (13, 1), (14, 4), (18, 1)], 19, 160, .agg ⟨[.int .i64 0, .int .i64 0, .int .i64 0, .int .i64 0, .int .i64 0, .int .i64 0, .int .i64 0, .bool false, .bool false, .bool false, .bool false, .int .i64 0, .int .u8 0, .slice none 0 0, .int .i64 0, .int .i64 0, .int .i64 0, .int .i64 0, .string ⟨⟨[]⟩⟩]⟩⟩),
  (31, ⟨.int .i64, 1, 8, .int .i64 0⟩),
  (38, ⟨.struct [(0, 1), (1, 1), (2, 1), (3, 1), (4, 1)], 5, 48, .agg ⟨[.int .i64 0, .int .i64 0, .int .i64 0, .bool false, .string ⟨⟨[]⟩⟩]⟩⟩),
  (40, ⟨.slice 3 1, 1, 24, .slice none 0 0⟩),
  (42, ⟨.struct [(0, 1), (1, 1), (2, 3), (5, 1), (6, 1), (7, 1), (8, 1), (9, 1), (10, 1), (11, 2)], 13, 88, .agg ⟨[.int .i64 0, .int .i64 0, .int .i64 0, .bool false, .bool false, .bool false, .bool false, .int .i64 0, .int .i64 0, .int .i64 0, .int .i64 0, .int .i64 0, .int .u8 0]⟩⟩),
  (44, ⟨.struct [(0, 1), (1, 1), (2, 4), (6, 1), (7, 13), (20, 1)], 21, 176, .agg ⟨[.int .i64 0, .slice none 0 0, .int .i64 0, .int .i64 0, .int .i64 0, .int .i64 0, .bool false, .int .i64 0, .int .i64 0, .int .i64 0, .bool false, .bool false, .bool false, .bool false, .int .i64 0, .int .i64 0, .int .i64 0, .int .i64 0, .int .i64 0, .int .u8 0, .string ⟨⟨[]⟩⟩]⟩⟩),
  (51, ⟨.slice 5 1, 1, 24, .slice none 0 0⟩),
  (54, ⟨.ptr 116, 1, 8, .pointer none⟩),
  (57, ⟨.struct [(0, 1)], 1, 8, .agg ⟨[.pointer none]⟩⟩),
  (59, ⟨.int .u64, 1, 8, .int .u64 0⟩),
  (63, ⟨.ptr 29, 1, 8, .pointer none⟩),
  (71, ⟨.ptr 79, 1, 8, .pointer none⟩),
  (76, ⟨.ptr 3, 1, 8, .pointer none⟩),
  (77, ⟨.ptr 140, 1, 8, .pointer none⟩),
  (79, ⟨.struct [(0, 1), (1, 1)], 2, 16, .agg ⟨[.pointer none, .bool false]⟩⟩),
  (80, ⟨.ptr 89, 1, 8, .pointer none⟩),
  (87, ⟨.ptr 142, 1, 8, .pointer none⟩),
  (89, ⟨.struct [(0, 1), (1, 1)], 2, 16, .agg ⟨[.pointer none, .int .i64 0]⟩⟩),
  (95, ⟨.ptr 44, 1, 8, .pointer none⟩),
  (96, ⟨.ptr 9, 1, 8, .pointer none⟩),
  (99, ⟨.slice 9 1, 1, 24, .slice none 0 0⟩),
  (100, ⟨.ptr 102, 1, 8, .pointer none⟩),
  (102, ⟨.struct [(0, 1), (1, 1)], 2, 32, .agg ⟨[.pointer none, .slice none 0 0]⟩⟩),
  (104, ⟨.int .u32, 1, 4, .int .u32 0⟩),
  (106, ⟨.iface, 1, 16, .nilIface⟩),
  (112, ⟨.fn, 1, 8, .nilFunc⟩),
  (114, ⟨.struct [(0, 1)], 1, 8, .agg ⟨[.int .i64 0]⟩⟩),
  (116, ⟨.struct [(0, 1), (1, 1)], 2, 32, .agg ⟨[.int .i64 0, .slice none 0 0]⟩⟩),
  (117, ⟨.slice 59 1, 1, 24, .slice none 0 0⟩),
  (118, ⟨.int .u64, 1, 8, .int .u64 0⟩),
  (121, ⟨.iface, 1, 16, .nilIface⟩),
  (125, ⟨.ptr 4, 1, 8, .pointer none⟩),
  (128, ⟨.ptr 5, 1, 8, .pointer none⟩),
  (136, ⟨.slice 76 1, 1, 24, .slice none 0 0⟩),
  (140, ⟨.struct [(0, 1)], 1, 16, .agg ⟨[.string ⟨⟨[]⟩⟩]⟩⟩),
  (142, ⟨.struct [(0, 1)], 1, 16, .agg ⟨[.string ⟨⟨[]⟩⟩]⟩⟩),
  (153, ⟨.int .i64, 1, 8, .int .i64 0⟩),
  (156, ⟨.ptr 166, 1, 8, .pointer none⟩),
  (159, ⟨.arr 24 5 1, 24, 24, .agg ⟨[.int .u8 0, .int .u8 0, .int .u8 0, .int .u8 0, .int .u8 0, .int .u8 0, .int .u8 0, .int .u8 0, .int .u8 0, .int .u8 0, .int .u8 0, .int .u8 0, .int .u8 0, .int .u8 0, .int .u8 0, .int .u8 0, .int .u8 0, .int .u8 0, .int .u8 0, .int .u8 0, .int .u8 0, .int .u8 0, .int .u8 0, .int .u8 0]⟩⟩),
  (166, ⟨.struct [(0, 1), (1, 1), (2, 1)], 3, 48, .agg ⟨[.string ⟨⟨[]⟩⟩, .string ⟨⟨[]⟩⟩, .nilIface]⟩⟩),
  (169, ⟨.arr 20 59 1, 20, 160, .agg ⟨[.int .u64 0, .int .u64 0, .int .u64 0, .int .u64 0, .int .u64 0, .int .u64 0, .int .u64 0, .int .u64 0, .int .u64 0, .int .u64 0, .int .u64 0, .int .u64 0, .int .u64 0, .int .u64 0, .int .u64 0, .int .u64 0, .int .u64 0, .int .u64 0, .int .u64 0, .int .u64 0]⟩⟩),
  (170, ⟨.arr 65 5 1, 65, 65, .agg ⟨[.int .u8 0, .int .u8 0, .int .u8 0, .int .u8 0, .int .u8 0, .int .u8 0, .int .u8 0, .int .u8 0, .int .u8 0, .int .u8 0, .int .u8 0, .int .u8 0, .int .u8 0, .int .u8 0, .int .u8 0, .int .u8 0, .int .u8 0, .int .u8 0, .int .u8 0, .int .u8 0, .int .u8 0, .int .u8 0, .int .u8 0, .int .u8 0, .int .u8 0, .int .u8 0, .int .u8 0, .int .u8 0, .int .u8 0, .int .u8 0, .int .u8 0, .int .u8 0, .int .u8 0, .int .u8 0, .int .u8 0, .int .u8 0, .int .u8 0, .int .u8 0, .int .u8 0, .int .u8 0, .int .u8 0, .int .u8 0, .int .u8 0, .int .u8 0, .int .u8 0, .int .u8 0, .int .u8 0, .int .u8 0, .int .u8 0, .int .u8 0, .int .u8 0, .int .u8 0, .int .u8 0, .int .u8 0, .int .u8 0, .int .u8 0, .int .u8 0, .int .u8 0, .int .u8 0, .int .u8 0, .int .u8 0, .int .u8 0, .int .u8 0, .int .u8 0, .int .u8 0]⟩⟩),
  (175, ⟨.ptr 177, 1, 8, .pointer none⟩),
  (177, ⟨.struct [(0, 1)], 1, 16, .agg ⟨[.string ⟨⟨[]⟩⟩]⟩⟩),
  (179, ⟨.arr 32 5 1, 32, 32, .agg ⟨[.int .u8 0, .int .u8 0, .int .u8 0, .int .u8 0, .int .u8 0, .int .u8 0, .int .u8 0, .int .u8 0, .int .u8 0, .int .u8 0, .int .u8 0, .int .u8 0, .int .u8 0, .int .u8 0, .int .u8 0, .int .u8 0, .int .u8 0, .int .u8 0, .int .u8 0, .int .u8 0, .int .u8 0, .int .u8 0, .int .u8 0, .int .u8 0, .int .u8 0, .int .u8 0, .int .u8 0, .int .u8 0, .int .u8 0, .int .u8 0, .int .u8 0, .int .u8 0]⟩⟩),
  (180, ⟨.arr 64 5 1, 64, 64, .agg ⟨[.int .u8 0, .int .u8 0, .int .u8 0, .int .u8 0, .int .u8 0, .int .u8 0, .int .u8 0, .int .u8 0, .int .u8 0, .int .u8 0, .int .u8 0, .int .u8 0, .int .u8 0, .int .u8 0, .int .u8 0, .int .u8 0, .int .u8 0, .int .u8 0, .int .u8 0, .int .u8 0, .int .u8 0, .int .u8 0, .int .u8 0, .int .u8 0, .int .u8 0, .int .u8 0, .int .u8 0, .int .u8 0, .int .u8 0, .int .u8 0, .int .u8 0, .int .u8 0, .int .u8 0, .int .u8 0, .int .u8 0, .int .u8 0, .int .u8 0, .int .u8 0, .int .u8 0, .int .u8 0, .int .u8 0, .int .u8 0, .int .u8 0, .int .u8 0, .int .u8 0, .int .u8 0, .int .u8 0, .int .u8 0, .int .u8 0, .int .u8 0, .int .u8 0, .int .u8 0, .int .u8 0, .int .u8 0, .int .u8 0, .int .u8 0, .int .u8 0, .int .u8 0, .int .u8 0, .int .u8 0, .int .u8 0, .int .u8 0, .int .u8 0, .int .u8 0]⟩⟩),
  (193, ⟨.slice 125 1, 1, 24, .slice none 0 0⟩)]
theorem tblOk : TOk Tryd.prog tbl :=
  .cons ⟨by kernel_rfl, Tryd.underlying2⟩ (
  .cons ⟨by kernel_rfl, Tryd.underlying3⟩ (
  .cons ⟨by kernel_rfl, Tryd.underlying4⟩ (
  .cons ⟨by kernel_rfl, Tryd.underlying5⟩ (
  .cons ⟨by kernel_rfl, Tryd.underlying9⟩ (
  .cons ⟨by kernel_rfl, Tryd.underlying21⟩ (
  .cons ⟨by kernel_rfl, ⟨_, Tryd.underlying23, by kernel_rfl⟩⟩ (
  .cons ⟨by kernel_rfl, ⟨_, Tryd.underlying25, by kernel_rfl⟩⟩ (
  .cons ⟨by kernel_rfl, ⟨Tryd.underlying26, by kernel_rfl⟩⟩ (
  .cons ⟨by kernel_rfl, ⟨Tryd.underlying27, by kernel_rfl⟩⟩ (
  .cons ⟨by kernel_rfl, ⟨_, Tryd.underlying29, by kernel_rfl⟩⟩ (
  .cons ⟨by kernel_rfl, Tryd.underlying31⟩ (
  .cons ⟨by kernel_rfl, ⟨_, Tryd.underlying38, by kernel_rfl⟩⟩ (
  .cons ⟨by kernel_rfl, ⟨Tryd.underlying40, by kernel_rfl⟩⟩ (
  .cons ⟨by kernel_rfl, ⟨_, Tryd.underlying42, by kernel_rfl⟩⟩ (
  .cons ⟨by kernel_rfl, ⟨_, Tryd.underlying44, by kernel_rfl⟩⟩ (
  .cons ⟨by kernel_rfl, ⟨Tryd.underlying51, by kernel_rfl⟩⟩ (
  .cons ⟨by kernel_rfl, Tryd.underlying54⟩ (
  .cons ⟨by kernel_rfl, ⟨_, Tryd.underlying57, by kernel_rfl⟩⟩ (
  .cons ⟨by kernel_rfl, Tryd.underlying59⟩ (
  .cons ⟨by kernel_rfl, Tryd.underlying63⟩ (
  .cons ⟨by kernel_rfl, Tryd.underlying71⟩ (
  .cons ⟨by kernel_rfl, Tryd.underlying76⟩ (
  .cons ⟨by kernel_rfl, Tryd.underlying77⟩ (
  .cons ⟨by kernel_rfl, ⟨_, Tryd.underlying79, by kernel_rfl⟩⟩ (
  .cons ⟨by kernel_rfl, Tryd.underlying80⟩ (
  .cons ⟨by kernel_rfl, Tryd.underlying87⟩ (
  .cons ⟨by kernel_rfl, ⟨_, Tryd.underlying89, by kernel_rfl⟩⟩ (
  .cons ⟨by kernel_rfl, Tryd.underlying95⟩ (
  .cons ⟨by kernel_rfl, Tryd.underlying96⟩ (
  .cons ⟨by kernel_rfl, ⟨Tryd.underlying99, by kernel_rfl⟩⟩ (
  .cons ⟨by kernel_rfl, Tryd.underlying100⟩ (
  .cons ⟨by kernel_rfl, ⟨_, Tryd.underlying102, by kernel_rfl⟩⟩ (
  .cons ⟨by kernel_rfl, Tryd.underlying104⟩ (
  .cons ⟨by kernel_rfl, ⟨_, Tryd.underlying106⟩⟩ (
  .cons ⟨by kernel_rfl, ⟨_, _, _, Tryd.underlying112⟩⟩ (
  .cons ⟨by kernel_rfl, ⟨_, Tryd.underlying114, by kernel_rfl⟩⟩ (
  .cons ⟨by kernel_rfl, ⟨_, Tryd.underlying116, by kernel_rfl⟩⟩ (
  .cons ⟨by kernel_rfl, ⟨Tryd.underlying117, by kernel_rfl⟩⟩ (
  .cons ⟨by kernel_rfl, Tryd.underlying118⟩ (
  .cons ⟨by kernel_rfl, ⟨_, Tryd.underlying121⟩⟩ (
  .cons ⟨by kernel_rfl, Tryd.underlying125⟩ (
  .cons ⟨by kernel_rfl, Tryd.underlying128⟩ (
  .cons ⟨by kernel_rfl, ⟨Tryd.underlying136, by kernel_rfl⟩⟩ (
  .cons ⟨by kernel_rfl, ⟨_, Tryd.underlying140, by kernel_rfl⟩⟩ (
  .cons ⟨by kernel_rfl, ⟨_, Tryd.underlying142, by kernel_rfl⟩⟩ (
  .cons ⟨by kernel_rfl, Tryd.underlying153⟩ (
  .cons ⟨by kernel_rfl, Tryd.underlying156⟩ (
  .cons ⟨by kernel_rfl, ⟨Tryd.underlying159, by kernel_rfl⟩⟩ (
  .cons ⟨by kernel_rfl, ⟨_, Tryd.underlying166, by kernel_rfl⟩⟩ (
  .cons ⟨by kernel_rfl, ⟨Tryd.underlying169, by kernel_rfl⟩⟩ (
  .cons ⟨by kernel_rfl, ⟨Tryd.underlying170, by kernel_rfl⟩⟩ (
  .cons ⟨by kernel_rfl, Tryd.underlying175⟩ (
  .cons ⟨by kernel_rfl, ⟨_, Tryd.underlying177, by kernel_rfl⟩⟩ (
  .cons ⟨by kernel_rfl, ⟨Tryd.underlying179, by kernel_rfl⟩⟩ (
  .cons ⟨by kernel_rfl, ⟨Tryd.underlying180, by kernel_rfl⟩⟩ (
  .cons ⟨by kernel_rfl, ⟨Tryd.underlying193, by kernel_rfl⟩⟩ (
  .nil)))))))))))))))))))))))))))))))))))))))))))))))))))))))))
theorem mixed : Tryd.prog.follows .mixedOrders = true := by kernel_rfl
abbrev T_ : Nat := 0
abbrev T_int : Nat := 3
abbrev T_bool : Nat := 4
abbrev T_uint8 : Nat := 5
abbrev T_string : Nat := 9
abbrev T_int32 : Nat := 21
abbrev T_api_Who : Nat := 23
abbrev T_api_Seat : Nat := 25
abbrev T_4_int : Nat := 27
abbrev T_api_Command : Nat := 29
abbrev T_api_Row : Nat := 38
abbrev T_api_Pax : Nat := 42
abbrev T_api_Reply : Nat := 44
abbrev T_Sl_uint8 : Nat := 51
abbrev T_wire_writer : Nat := 57
abbrev T_Ptr_wire_reader : Nat := 71
abbrev T_Ptr_int : Nat := 76
abbrev T_wire_reader : Nat := 79
abbrev T_tarmacref23_in : Nat := 89
abbrev T_Ptr_strings_Builder : Nat := 100
abbrev T_strings_Builder : Nat := 102
abbrev T_pack_Writer : Nat := 116
abbrev T_Ptr_uint8 : Nat := 128
abbrev T_pack_Reader : Nat := 140
abbrev T_tarmacref01_Reader : Nat := 142
abbrev T_unsafe_Pointer : Nat := 150
abbrev f_tarmaclaw23_WireCommands : Nat := 3
theorem en_tarmaclaw23_WireCommands {args : List Value} {w : World} {R : Value → World → Prop} (hlen : Nat.ble args.length 73 = true) (h : SemW Tryd.prog 73 (Tryd.f3.body.getD .skip) (retQ tbl [.tmp 4] R) (argEnv 0 args) w) : Cl Tryd.prog 3 args w R :=
  Cl.enter tblOk Tryd.call3 Tryd.func3 Tryd.ntmps3 rfl Tryd.results3 hlen h
abbrev f_tarmaclaw23_WireUnlike : Nat := 4
theorem en_tarmaclaw23_WireUnlike {args : List Value} {w : World} {R : Value → World → Prop} (hlen : Nat.ble args.length 34 = true) (h : SemW Tryd.prog 34 (Tryd.f4.body.getD .skip) (retQ tbl [.tmp 4] R) (argEnv 0 args) w) : Cl Tryd.prog 4 args w R :=
  Cl.enter tblOk Tryd.call4 Tryd.func4 Tryd.ntmps4 rfl Tryd.results4 hlen h
abbrev f_tarmaclaw23_lives : Nat := 7
theorem en_tarmaclaw23_lives {args : List Value} {w : World} {R : Value → World → Prop} (hlen : Nat.ble args.length 42 = true) (h : SemW Tryd.prog 42 (Tryd.f7.body.getD .skip) (retQ tbl [.tmp 0] R) (argEnv 0 args) w) : Cl Tryd.prog 7 args w R :=
  Cl.enter tblOk Tryd.call7 Tryd.func7 Tryd.ntmps7 rfl Tryd.results7 hlen h
abbrev f_wire_Command : Nat := 8
theorem en_wire_Command {args : List Value} {w : World} {R : Value → World → Prop} (hlen : Nat.ble args.length 68 = true) (h : SemW Tryd.prog 68 (Tryd.f8.body.getD .skip) (retQ tbl [.tmp 2, .tmp 3] R) (argEnv 0 args) w) : Cl Tryd.prog 8 args w R :=
  Cl.enter tblOk Tryd.call8 Tryd.func8 Tryd.ntmps8 rfl Tryd.results8 hlen h
abbrev f_tarmacref23_Command : Nat := 9
theorem en_tarmacref23_Command {args : List Value} {w : World} {R : Value → World → Prop} (hlen : Nat.ble args.length 142 = true) (h : SemW Tryd.prog 142 (Tryd.f9.body.getD .skip) (retQ tbl [.tmp 2, .tmp 3] R) (argEnv 0 args) w) : Cl Tryd.prog 9 args w R :=
  Cl.enter tblOk Tryd.call9 Tryd.func9 Tryd.ntmps9 rfl Tryd.results9 hlen h
abbrev f_wire_ReadCommand : Nat := 10
theorem en_wire_ReadCommand {args : List Value} {w : World} {R : Value → World → Prop} (hlen : Nat.ble args.length 56 = true) (h : SemW Tryd.prog 56 (Tryd.f10.body.getD .skip) (retQ tbl [.cell 2 29, .tmp 3] R) (argEnv 0 args) w) : Cl Tryd.prog 10 args w R :=
  Cl.enter tblOk Tryd.call10 Tryd.func10 Tryd.ntmps10 rfl Tryd.results10 hlen h
abbrev f_tarmacref23_ReadCommand : Nat := 11
theorem en_tarmacref23_ReadCommand {args : List Value} {w : World} {R : Value → World → Prop} (hlen : Nat.ble args.length 194 = true) (h : SemW Tryd.prog 194 (Tryd.f11.body.getD .skip) (retQ tbl [.cell 2 29, .tmp 3] R) (argEnv 0 args) w) : Cl Tryd.prog 11 args w R :=
  Cl.enter tblOk Tryd.call11 Tryd.func11 Tryd.ntmps11 rfl Tryd.results11 hlen h
abbrev f_tarmacref23_Same : Nat := 12
theorem en_tarmacref23_Same {args : List Value} {w : World} {R : Value → World → Prop} (hlen : Nat.ble args.length 97 = true) (h : SemW Tryd.prog 97 (Tryd.f12.body.getD .skip) (retQ tbl [.tmp 4] R) (argEnv 0 args) w) : Cl Tryd.prog 12 args w R :=
  Cl.enter tblOk Tryd.call12 Tryd.func12 Tryd.ntmps12 rfl Tryd.results12 hlen h
abbrev f_tarmacref23_Right : Nat := 13
theorem en_tarmacref23_Right {args : List Value} {w : World} {R : Value → World → Prop} (hlen : Nat.ble args.length 44 = true) (h : SemW Tryd.prog 44 (Tryd.f13.body.getD .skip) (retQ tbl [.tmp 2] R) (argEnv 0 args) w) : Cl Tryd.prog 13 args w R :=
  Cl.enter tblOk Tryd.call13 Tryd.func13 Tryd.ntmps13 rfl Tryd.results13 hlen h
abbrev f_wire_Reply : Nat := 14
theorem en_wire_Reply {args : List Value} {w : World} {R : Value → World → Prop} (hlen : Nat.ble args.length 32 = true) (h : SemW Tryd.prog 32 (Tryd.f14.body.getD .skip) (retQ tbl [.tmp 2, .tmp 3] R) (argEnv 0 args) w) : Cl Tryd.prog 14 args w R :=
  Cl.enter tblOk Tryd.call14 Tryd.func14 Tryd.ntmps14 rfl Tryd.results14 hlen h
abbrev f_frame_Seal : Nat := 17
theorem en_frame_Seal {args : List Value} {w : World} {R : Value → World → Prop} (hlen : Nat.ble args.length 33 = true) (h : SemW Tryd.prog 33 (Tryd.f17.body.getD .skip) (retQ tbl [.tmp 2, .tmp 3] R) (argEnv 0 args) w) : Cl Tryd.prog 17 args w R :=
  Cl.enter tblOk Tryd.call17 Tryd.func17 Tryd.ntmps17 rfl Tryd.results17 hlen h
abbrev f_wire_small : Nat := 18
theorem en_wire_small {args : List Value} {w : World} {R : Value → World → Prop} (hlen : Nat.ble args.length 19 = true) (h : SemW Tryd.prog 19 (Tryd.f18.body.getD .skip) (retQ tbl [.tmp 2] R) (argEnv 0 args) w) : Cl Tryd.prog 18 args w R :=
  Cl.enter tblOk Tryd.call18 Tryd.func18 Tryd.ntmps18 rfl Tryd.results18 hlen h
abbrev f_pack_New : Nat := 19
theorem en_pack_New {args : List Value} {w : World} {R : Value → World → Prop} (hlen : Nat.ble args.length 3 = true) (h : SemW Tryd.prog 3 (Tryd.f19.body.getD .skip) (retQ tbl [.tmp 0] R) (argEnv 0 args) w) : Cl Tryd.prog 19 args w R :=
  Cl.enter tblOk Tryd.call19 Tryd.func19 Tryd.ntmps19 rfl Tryd.results19 hlen h
abbrev f_pack_Writer_Num : Nat := 20
theorem en_pack_Writer_Num {args : List Value} {w : World} {R : Value → World → Prop} (hlen : Nat.ble args.length 28 = true) (h : SemW Tryd.prog 28 (Tryd.f20.body.getD .skip) (retQ tbl [] R) (argEnv 0 args) w) : Cl Tryd.prog 20 args w R :=
  Cl.enter tblOk Tryd.call20 Tryd.func20 Tryd.ntmps20 rfl Tryd.results20 hlen h
abbrev f_pack_Writer_Int : Nat := 21
theorem en_pack_Writer_Int {args : List Value} {w : World} {R : Value → World → Prop} (hlen : Nat.ble args.length 23 = true) (h : SemW Tryd.prog 23 (Tryd.f21.body.getD .skip) (retQ tbl [] R) (argEnv 0 args) w) : Cl Tryd.prog 21 args w R :=
  Cl.enter tblOk Tryd.call21 Tryd.func21 Tryd.ntmps21 rfl Tryd.results21 hlen h
abbrev f_slices_Clone_api_Row_api_Row : Nat := 22
theorem en_slices_Clone_api_Row_api_Row {args : List Value} {w : World} {R : Value → World → Prop} (hlen : Nat.ble args.length 8 = true) (h : SemW Tryd.prog 8 (Tryd.f22.body.getD .skip) (retQ tbl [.tmp 2] R) (argEnv 0 args) w) : Cl Tryd.prog 22 args w R :=
  Cl.enter tblOk Tryd.call22 Tryd.func22 Tryd.ntmps22 rfl Tryd.results22 hlen h
abbrev f_wire_command : Nat := 23
theorem en_wire_command {args : List Value} {w : World} {R : Value → World → Prop} (hlen : Nat.ble args.length 234 = true) (h : SemW Tryd.prog 234 (Tryd.f23.body.getD .skip) (retQ tbl [] R) (argEnv 0 args) w) : Cl Tryd.prog 23 args w R :=
  Cl.enter tblOk Tryd.call23 Tryd.func23 Tryd.ntmps23 rfl Tryd.results23 hlen h
abbrev f_wire_writer_seal : Nat := 24
theorem en_wire_writer_seal {args : List Value} {w : World} {R : Value → World → Prop} (hlen : Nat.ble args.length 17 = true) (h : SemW Tryd.prog 17 (Tryd.f24.body.getD .skip) (retQ tbl [.tmp 2, .tmp 3] R) (argEnv 0 args) w) : Cl Tryd.prog 24 args w R :=
  Cl.enter tblOk Tryd.call24 Tryd.func24 Tryd.ntmps24 rfl Tryd.results24 hlen h
abbrev f_wire_same : Nat := 25
theorem en_wire_same {args : List Value} {w : World} {R : Value → World → Prop} (hlen : Nat.ble args.length 93 = true) (h : SemW Tryd.prog 93 (Tryd.f25.body.getD .skip) (retQ tbl [.tmp 4] R) (argEnv 0 args) w) : Cl Tryd.prog 25 args w R :=
  Cl.enter tblOk Tryd.call25 Tryd.func25 Tryd.ntmps25 rfl Tryd.results25 hlen h
abbrev f_tarmacref01_Num : Nat := 26
theorem en_tarmacref01_Num {args : List Value} {w : World} {R : Value → World → Prop} (hlen : Nat.ble args.length 21 = true) (h : SemW Tryd.prog 21 (Tryd.f26.body.getD .skip) (retQ tbl [.tmp 2] R) (argEnv 0 args) w) : Cl Tryd.prog 26 args w R :=
  Cl.enter tblOk Tryd.call26 Tryd.func26 Tryd.ntmps26 rfl Tryd.results26 hlen h
abbrev f_tarmacref23_ints : Nat := 27
theorem en_tarmacref23_ints {args : List Value} {w : World} {R : Value → World → Prop} (hlen : Nat.ble args.length 19 = true) (h : SemW Tryd.prog 19 (Tryd.f27.body.getD .skip) (retQ tbl [.tmp 2] R) (argEnv 0 args) w) : Cl Tryd.prog 27 args w R :=
  Cl.enter tblOk Tryd.call27 Tryd.func27 Tryd.ntmps27 rfl Tryd.results27 hlen h
abbrev f_tarmacref22_Rows : Nat := 28
theorem en_tarmacref22_Rows {args : List Value} {w : World} {R : Value → World → Prop} (hlen : Nat.ble args.length 46 = true) (h : SemW Tryd.prog 46 (Tryd.f28.body.getD .skip) (retQ tbl [.tmp 2] R) (argEnv 0 args) w) : Cl Tryd.prog 28 args w R :=
  Cl.enter tblOk Tryd.call28 Tryd.func28 Tryd.ntmps28 rfl Tryd.results28 hlen h
abbrev f_tarmacref23_bit : Nat := 29
theorem en_tarmacref23_bit {args : List Value} {w : World} {R : Value → World → Prop} (hlen : Nat.ble args.length 7 = true) (h : SemW Tryd.prog 7 (Tryd.f29.body.getD .skip) (retQ tbl [.tmp 4] R) (argEnv 0 args) w) : Cl Tryd.prog 29 args w R :=
  Cl.enter tblOk Tryd.call29 Tryd.func29 Tryd.ntmps29 rfl Tryd.results29 hlen h
abbrev f_tarmacref01_Text : Nat := 30
theorem en_tarmacref01_Text {args : List Value} {w : World} {R : Value → World → Prop} (hlen : Nat.ble args.length 9 = true) (h : SemW Tryd.prog 9 (Tryd.f30.body.getD .skip) (retQ tbl [.tmp 2] R) (argEnv 0 args) w) : Cl Tryd.prog 30 args w R :=
  Cl.enter tblOk Tryd.call30 Tryd.func30 Tryd.ntmps30 rfl Tryd.results30 hlen h
abbrev f_tarmacref23_one : Nat := 31
theorem en_tarmacref23_one {args : List Value} {w : World} {R : Value → World → Prop} (hlen : Nat.ble args.length 15 = true) (h : SemW Tryd.prog 15 (Tryd.f31.body.getD .skip) (retQ tbl [.tmp 2, .tmp 3] R) (argEnv 0 args) w) : Cl Tryd.prog 31 args w R :=
  Cl.enter tblOk Tryd.call31 Tryd.func31 Tryd.ntmps31 rfl Tryd.results31 hlen h
abbrev f_wire_open : Nat := 32
theorem en_wire_open {args : List Value} {w : World} {R : Value → World → Prop} (hlen : Nat.ble args.length 25 = true) (h : SemW Tryd.prog 25 (Tryd.f32.body.getD .skip) (retQ tbl [.tmp 2, .tmp 3] R) (argEnv 0 args) w) : Cl Tryd.prog 32 args w R :=
  Cl.enter tblOk Tryd.call32 Tryd.func32 Tryd.ntmps32 rfl Tryd.results32 hlen h
abbrev f_wire_reader_num : Nat := 33
theorem en_wire_reader_num {args : List Value} {w : World} {R : Value → World → Prop} (hlen : Nat.ble args.length 26 = true) (h : SemW Tryd.prog 26 (Tryd.f33.body.getD .skip) (retQ tbl [.tmp 4] R) (argEnv 0 args) w) : Cl Tryd.prog 33 args w R :=
  Cl.enter tblOk Tryd.call33 Tryd.func33 Tryd.ntmps33 rfl Tryd.results33 hlen h
abbrev f_wire_reader_int : Nat := 34
theorem en_wire_reader_int {args : List Value} {w : World} {R : Value → World → Prop} (hlen : Nat.ble args.length 37 = true) (h : SemW Tryd.prog 37 (Tryd.f34.body.getD .skip) (retQ tbl [] R) (argEnv 0 args) w) : Cl Tryd.prog 34 args w R :=
  Cl.enter tblOk Tryd.call34 Tryd.func34 Tryd.ntmps34 rfl Tryd.results34 hlen h
abbrev f_pack_Reader_Done : Nat := 35
theorem en_pack_Reader_Done {args : List Value} {w : World} {R : Value → World → Prop} (hlen : Nat.ble args.length 8 = true) (h : SemW Tryd.prog 8 (Tryd.f35.body.getD .skip) (retQ tbl [.tmp 2] R) (argEnv 0 args) w) : Cl Tryd.prog 35 args w R :=
  Cl.enter tblOk Tryd.call35 Tryd.func35 Tryd.ntmps35 rfl Tryd.results35 hlen h
abbrev f_tarmacref23_payload : Nat := 36
theorem en_tarmacref23_payload {args : List Value} {w : World} {R : Value → World → Prop} (hlen : Nat.ble args.length 26 = true) (h : SemW Tryd.prog 26 (Tryd.f36.body.getD .skip) (retQ tbl [.tmp 2, .tmp 3] R) (argEnv 0 args) w) : Cl Tryd.prog 36 args w R :=
  Cl.enter tblOk Tryd.call36 Tryd.func36 Tryd.ntmps36 rfl Tryd.results36 hlen h
abbrev f_tarmacref23_in_num : Nat := 37
theorem en_tarmacref23_in_num {args : List Value} {w : World} {R : Value → World → Prop} (hlen : Nat.ble args.length 23 = true) (h : SemW Tryd.prog 23 (Tryd.f37.body.getD .skip) (retQ tbl [.tmp 2] R) (argEnv 0 args) w) : Cl Tryd.prog 37 args w R :=
  Cl.enter tblOk Tryd.call37 Tryd.func37 Tryd.ntmps37 rfl Tryd.results37 hlen h
abbrev f_tarmacref23_in_int : Nat := 38
theorem en_tarmacref23_in_int {args : List Value} {w : World} {R : Value → World → Prop} (hlen : Nat.ble args.length 23 = true) (h : SemW Tryd.prog 23 (Tryd.f38.body.getD .skip) (retQ tbl [.tmp 2] R) (argEnv 0 args) w) : Cl Tryd.prog 38 args w R :=
  Cl.enter tblOk Tryd.call38 Tryd.func38 Tryd.ntmps38 rfl Tryd.results38 hlen h
abbrev f_tarmacref22_ReadRows : Nat := 39
theorem en_tarmacref22_ReadRows {args : List Value} {w : World} {R : Value → World → Prop} (hlen : Nat.ble args.length 75 = true) (h : SemW Tryd.prog 75 (Tryd.f39.body.getD .skip) (retQ tbl [.tmp 2, .tmp 3] R) (argEnv 0 args) w) : Cl Tryd.prog 39 args w R :=
  Cl.enter tblOk Tryd.call39 Tryd.func39 Tryd.ntmps39 rfl Tryd.results39 hlen h
abbrev f_tarmacref01_Reader_Text : Nat := 40
theorem en_tarmacref01_Reader_Text {args : List Value} {w : World} {R : Value → World → Prop} (hlen : Nat.ble args.length 49 = true) (h : SemW Tryd.prog 49 (Tryd.f40.body.getD .skip) (retQ tbl [.tmp 2, .tmp 3] R) (argEnv 0 args) w) : Cl Tryd.prog 40 args w R :=
  Cl.enter tblOk Tryd.call40 Tryd.func40 Tryd.ntmps40 rfl Tryd.results40 hlen h
abbrev f_tarmacref13_SameRows : Nat := 41
theorem en_tarmacref13_SameRows {args : List Value} {w : World} {R : Value → World → Prop} (hlen : Nat.ble args.length 26 = true) (h : SemW Tryd.prog 26 (Tryd.f41.body.getD .skip) (retQ tbl [.tmp 4] R) (argEnv 0 args) w) : Cl Tryd.prog 41 args w R :=
  Cl.enter tblOk Tryd.call41 Tryd.func41 Tryd.ntmps41 rfl Tryd.results41 hlen h
abbrev f_tarmacref23_bare : Nat := 42
theorem en_tarmacref23_bare {args : List Value} {w : World} {R : Value → World → Prop} (hlen : Nat.ble args.length 89 = true) (h : SemW Tryd.prog 89 (Tryd.f42.body.getD .skip) (retQ tbl [.cell 2 29] R) (argEnv 0 args) w) : Cl Tryd.prog 42 args w R :=
  Cl.enter tblOk Tryd.call42 Tryd.func42 Tryd.ntmps42 rfl Tryd.results42 hlen h
abbrev f_cabin_Label : Nat := 43
theorem en_cabin_Label {args : List Value} {w : World} {R : Value → World → Prop} (hlen : Nat.ble args.length 25 = true) (h : SemW Tryd.prog 25 (Tryd.f43.body.getD .skip) (retQ tbl [.tmp 2] R) (argEnv 0 args) w) : Cl Tryd.prog 43 args w R :=
  Cl.enter tblOk Tryd.call43 Tryd.func43 Tryd.ntmps43 rfl Tryd.results43 hlen h
abbrev f_slices_Clone_int_int : Nat := 44
theorem en_slices_Clone_int_int {args : List Value} {w : World} {R : Value → World → Prop} (hlen : Nat.ble args.length 8 = true) (h : SemW Tryd.prog 8 (Tryd.f44.body.getD .skip) (retQ tbl [.tmp 2] R) (argEnv 0 args) w) : Cl Tryd.prog 44 args w R :=
  Cl.enter tblOk Tryd.call44 Tryd.func44 Tryd.ntmps44 rfl Tryd.results44 hlen h
abbrev f_wire_reply : Nat := 45
theorem en_wire_reply {args : List Value} {w : World} {R : Value → World → Prop} (hlen : Nat.ble args.length 151 = true) (h : SemW Tryd.prog 151 (Tryd.f45.body.getD .skip) (retQ tbl [] R) (argEnv 0 args) w) : Cl Tryd.prog 45 args w R :=
  Cl.enter tblOk Tryd.call45 Tryd.func45 Tryd.ntmps45 rfl Tryd.results45 hlen h
abbrev f_cabin_Parse : Nat := 46
theorem en_cabin_Parse {args : List Value} {w : World} {R : Value → World → Prop} (hlen : Nat.ble args.length 36 = true) (h : SemW Tryd.prog 36 (Tryd.f46.body.getD .skip) (retQ tbl [.cell 2 25, .tmp 3] R) (argEnv 0 args) w) : Cl Tryd.prog 46 args w R :=
  Cl.enter tblOk Tryd.call46 Tryd.func46 Tryd.ntmps46 rfl Tryd.results46 hlen h
abbrev f_frame_four : Nat := 47
theorem en_frame_four {args : List Value} {w : World} {R : Value → World → Prop} (hlen : Nat.ble args.length 16 = true) (h : SemW Tryd.prog 16 (Tryd.f47.body.getD .skip) (retQ tbl [.tmp 2] R) (argEnv 0 args) w) : Cl Tryd.prog 47 args w R :=
  Cl.enter tblOk Tryd.call47 Tryd.func47 Tryd.ntmps47 rfl Tryd.results47 hlen h
abbrev f_strings_Builder_WriteString : Nat := 48
theorem en_strings_Builder_WriteString {args : List Value} {w : World} {R : Value → World → Prop} (hlen : Nat.ble args.length 19 = true) (h : SemW Tryd.prog 19 (Tryd.f48.body.getD .skip) (retQ tbl [.tmp 4, .tmp 5] R) (argEnv 0 args) w) : Cl Tryd.prog 48 args w R :=
  Cl.enter tblOk Tryd.call48 Tryd.func48 Tryd.ntmps48 rfl Tryd.results48 hlen h
abbrev f_frame_Sum : Nat := 49
theorem en_frame_Sum {args : List Value} {w : World} {R : Value → World → Prop} (hlen : Nat.ble args.length 38 = true) (h : SemW Tryd.prog 38 (Tryd.f49.body.getD .skip) (retQ tbl [.tmp 2] R) (argEnv 0 args) w) : Cl Tryd.prog 49 args w R :=
  Cl.enter tblOk Tryd.call49 Tryd.func49 Tryd.ntmps49 rfl Tryd.results49 hlen h
abbrev f_strings_Builder_String : Nat := 50
theorem en_strings_Builder_String {args : List Value} {w : World} {R : Value → World → Prop} (hlen : Nat.ble args.length 14 = true) (h : SemW Tryd.prog 14 (Tryd.f50.body.getD .skip) (retQ tbl [.tmp 2] R) (argEnv 0 args) w) : Cl Tryd.prog 50 args w R :=
  Cl.enter tblOk Tryd.call50 Tryd.func50 Tryd.ntmps50 rfl Tryd.results50 hlen h
abbrev f_slices_ContainsFunc_api_Row_api_Row : Nat := 51
theorem en_slices_ContainsFunc_api_Row_api_Row {args : List Value} {w : World} {R : Value → World → Prop} (hlen : Nat.ble args.length 9 = true) (h : SemW Tryd.prog 9 (Tryd.f51.body.getD .skip) (retQ tbl [.tmp 4] R) (argEnv 0 args) w) : Cl Tryd.prog 51 args w R :=
  Cl.enter tblOk Tryd.call51 Tryd.func51 Tryd.ntmps51 rfl Tryd.results51 hlen h
abbrev f_wire_small_1 : Nat := 52
theorem en_wire_small_1 {args : List Value} {w : World} {R : Value → World → Prop} (hlen : Nat.ble args.length 7 = true) (h : SemW Tryd.prog 7 (Tryd.f52.body.getD .skip) (retQ tbl [.tmp 2] R) (argEnv 0 args) w) : Cl Tryd.prog 52 args w R :=
  Cl.enter tblOk Tryd.call52 Tryd.func52 Tryd.ntmps52 rfl Tryd.results52 hlen h
abbrev f_pack_Writer_add : Nat := 53
theorem en_pack_Writer_add {args : List Value} {w : World} {R : Value → World → Prop} (hlen : Nat.ble args.length 24 = true) (h : SemW Tryd.prog 24 (Tryd.f53.body.getD .skip) (retQ tbl [] R) (argEnv 0 args) w) : Cl Tryd.prog 53 args w R :=
  Cl.enter tblOk Tryd.call53 Tryd.func53 Tryd.ntmps53 rfl Tryd.results53 hlen h
abbrev f_pack_Writer_Bytes : Nat := 54
theorem en_pack_Writer_Bytes {args : List Value} {w : World} {R : Value → World → Prop} (hlen : Nat.ble args.length 8 = true) (h : SemW Tryd.prog 8 (Tryd.f54.body.getD .skip) (retQ tbl [.tmp 2] R) (argEnv 0 args) w) : Cl Tryd.prog 54 args w R :=
  Cl.enter tblOk Tryd.call54 Tryd.func54 Tryd.ntmps54 rfl Tryd.results54 hlen h
abbrev f_slices_Equal_api_Row_api_Row : Nat := 55
theorem en_slices_Equal_api_Row_api_Row {args : List Value} {w : World} {R : Value → World → Prop} (hlen : Nat.ble args.length 26 = true) (h : SemW Tryd.prog 26 (Tryd.f55.body.getD .skip) (retQ tbl [.tmp 4] R) (argEnv 0 args) w) : Cl Tryd.prog 55 args w R :=
  Cl.enter tblOk Tryd.call55 Tryd.func55 Tryd.ntmps55 rfl Tryd.results55 hlen h
abbrev f_tarmacref01_Int : Nat := 56
theorem en_tarmacref01_Int {args : List Value} {w : World} {R : Value → World → Prop} (hlen : Nat.ble args.length 6 = true) (h : SemW Tryd.prog 6 (Tryd.f56.body.getD .skip) (retQ tbl [.tmp 2] R) (argEnv 0 args) w) : Cl Tryd.prog 56 args w R :=
  Cl.enter tblOk Tryd.call56 Tryd.func56 Tryd.ntmps56 rfl Tryd.results56 hlen h
abbrev f_tarmacref22_bit : Nat := 57
theorem en_tarmacref22_bit {args : List Value} {w : World} {R : Value → World → Prop} (hlen : Nat.ble args.length 7 = true) (h : SemW Tryd.prog 7 (Tryd.f57.body.getD .skip) (retQ tbl [.tmp 4] R) (argEnv 0 args) w) : Cl Tryd.prog 57 args w R :=
  Cl.enter tblOk Tryd.call57 Tryd.func57 Tryd.ntmps57 rfl Tryd.results57 hlen h
abbrev f_tarmacref02_Seal : Nat := 58
theorem en_tarmacref02_Seal {args : List Value} {w : World} {R : Value → World → Prop} (hlen : Nat.ble args.length 23 = true) (h : SemW Tryd.prog 23 (Tryd.f58.body.getD .skip) (retQ tbl [.tmp 2, .tmp 3] R) (argEnv 0 args) w) : Cl Tryd.prog 58 args w R :=
  Cl.enter tblOk Tryd.call58 Tryd.func58 Tryd.ntmps58 rfl Tryd.results58 hlen h
abbrev f_frame_First : Nat := 59
theorem en_frame_First {args : List Value} {w : World} {R : Value → World → Prop} (hlen : Nat.ble args.length 54 = true) (h : SemW Tryd.prog 54 (Tryd.f59.body.getD .skip) (retQ tbl [.tmp 4, .tmp 5, .tmp 6] R) (argEnv 0 args) w) : Cl Tryd.prog 59 args w R :=
  Cl.enter tblOk Tryd.call59 Tryd.func59 Tryd.ntmps59 rfl Tryd.results59 hlen h
abbrev f_pack_Read : Nat := 60
theorem en_pack_Read {args : List Value} {w : World} {R : Value → World → Prop} (hlen : Nat.ble args.length 6 = true) (h : SemW Tryd.prog 6 (Tryd.f60.body.getD .skip) (retQ tbl [.tmp 2] R) (argEnv 0 args) w) : Cl Tryd.prog 60 args w R :=
  Cl.enter tblOk Tryd.call60 Tryd.func60 Tryd.ntmps60 rfl Tryd.results60 hlen h
abbrev f_pack_Reader_Num : Nat := 61
theorem en_pack_Reader_Num {args : List Value} {w : World} {R : Value → World → Prop} (hlen : Nat.ble args.length 59 = true) (h : SemW Tryd.prog 59 (Tryd.f61.body.getD .skip) (retQ tbl [.tmp 2, .tmp 3] R) (argEnv 0 args) w) : Cl Tryd.prog 61 args w R :=
  Cl.enter tblOk Tryd.call61 Tryd.func61 Tryd.ntmps61 rfl Tryd.results61 hlen h
abbrev f_pack_Reader_Int : Nat := 62
theorem en_pack_Reader_Int {args : List Value} {w : World} {R : Value → World → Prop} (hlen : Nat.ble args.length 20 = true) (h : SemW Tryd.prog 20 (Tryd.f62.body.getD .skip) (retQ tbl [.tmp 2, .tmp 3] R) (argEnv 0 args) w) : Cl Tryd.prog 62 args w R :=
  Cl.enter tblOk Tryd.call62 Tryd.func62 Tryd.ntmps62 rfl Tryd.results62 hlen h
abbrev f_tarmacref02_First : Nat := 63
theorem en_tarmacref02_First {args : List Value} {w : World} {R : Value → World → Prop} (hlen : Nat.ble args.length 72 = true) (h : SemW Tryd.prog 72 (Tryd.f63.body.getD .skip) (retQ tbl [.tmp 4, .tmp 5, .tmp 6] R) (argEnv 0 args) w) : Cl Tryd.prog 63 args w R :=
  Cl.enter tblOk Tryd.call63 Tryd.func63 Tryd.ntmps63 rfl Tryd.results63 hlen h
abbrev f_tarmacref01_Reader_Num : Nat := 64
theorem en_tarmacref01_Reader_Num {args : List Value} {w : World} {R : Value → World → Prop} (hlen : Nat.ble args.length 81 = true) (h : SemW Tryd.prog 81 (Tryd.f64.body.getD .skip) (retQ tbl [.tmp 2, .tmp 3] R) (argEnv 0 args) w) : Cl Tryd.prog 64 args w R :=
  Cl.enter tblOk Tryd.call64 Tryd.func64 Tryd.ntmps64 rfl Tryd.results64 hlen h
abbrev f_tarmacref01_Reader_Int : Nat := 65
theorem en_tarmacref01_Reader_Int {args : List Value} {w : World} {R : Value → World → Prop} (hlen : Nat.ble args.length 16 = true) (h : SemW Tryd.prog 16 (Tryd.f65.body.getD .skip) (retQ tbl [.tmp 2, .tmp 3] R) (argEnv 0 args) w) : Cl Tryd.prog 65 args w R :=
  Cl.enter tblOk Tryd.call65 Tryd.func65 Tryd.ntmps65 rfl Tryd.results65 hlen h
abbrev f_cabin_between : Nat := 66
theorem en_cabin_between {args : List Value} {w : World} {R : Value → World → Prop} (hlen : Nat.ble args.length 15 = true) (h : SemW Tryd.prog 15 (Tryd.f66.body.getD .skip) (retQ tbl [.tmp 6] R) (argEnv 0 args) w) : Cl Tryd.prog 66 args w R :=
  Cl.enter tblOk Tryd.call66 Tryd.func66 Tryd.ntmps66 rfl Tryd.results66 hlen h
abbrev f_strconv_Itoa : Nat := 67
theorem en_strconv_Itoa {args : List Value} {w : World} {R : Value → World → Prop} (hlen : Nat.ble args.length 5 = true) (h : SemW Tryd.prog 5 (Tryd.f67.body.getD .skip) (retQ tbl [.tmp 2] R) (argEnv 0 args) w) : Cl Tryd.prog 67 args w R :=
  Cl.enter tblOk Tryd.call67 Tryd.func67 Tryd.ntmps67 rfl Tryd.results67 hlen h
abbrev f_strconv_Atoi : Nat := 68
abbrev f_strings_Builder_copyCheck : Nat := 69
theorem en_strings_Builder_copyCheck {args : List Value} {w : World} {R : Value → World → Prop} (hlen : Nat.ble args.length 20 = true) (h : SemW Tryd.prog 20 (Tryd.f69.body.getD .skip) (retQ tbl [] R) (argEnv 0 args) w) : Cl Tryd.prog 69 args w R :=
  Cl.enter tblOk Tryd.call69 Tryd.func69 Tryd.ntmps69 rfl Tryd.results69 hlen h
abbrev f_slices_IndexFunc_api_Row_api_Row : Nat := 70
theorem en_slices_IndexFunc_api_Row_api_Row {args : List Value} {w : World} {R : Value → World → Prop} (hlen : Nat.ble args.length 19 = true) (h : SemW Tryd.prog 19 (Tryd.f70.body.getD .skip) (retQ tbl [.tmp 4] R) (argEnv 0 args) w) : Cl Tryd.prog 70 args w R :=
  Cl.enter tblOk Tryd.call70 Tryd.func70 Tryd.ntmps70 rfl Tryd.results70 hlen h
abbrev f_tarmacref01_Fold : Nat := 71
theorem en_tarmacref01_Fold {args : List Value} {w : World} {R : Value → World → Prop} (hlen : Nat.ble args.length 14 = true) (h : SemW Tryd.prog 14 (Tryd.f71.body.getD .skip) (retQ tbl [.tmp 2] R) (argEnv 0 args) w) : Cl Tryd.prog 71 args w R :=
  Cl.enter tblOk Tryd.call71 Tryd.func71 Tryd.ntmps71 rfl Tryd.results71 hlen h
abbrev f_tarmacref02_Frame : Nat := 72
theorem en_tarmacref02_Frame {args : List Value} {w : World} {R : Value → World → Prop} (hlen : Nat.ble args.length 17 = true) (h : SemW Tryd.prog 17 (Tryd.f72.body.getD .skip) (retQ tbl [.tmp 2] R) (argEnv 0 args) w) : Cl Tryd.prog 72 args w R :=
  Cl.enter tblOk Tryd.call72 Tryd.func72 Tryd.ntmps72 rfl Tryd.results72 hlen h
abbrev f_frame_number : Nat := 73
theorem en_frame_number {args : List Value} {w : World} {R : Value → World → Prop} (hlen : Nat.ble args.length 21 = true) (h : SemW Tryd.prog 21 (Tryd.f73.body.getD .skip) (retQ tbl [.tmp 2] R) (argEnv 0 args) w) : Cl Tryd.prog 73 args w R :=
  Cl.enter tblOk Tryd.call73 Tryd.func73 Tryd.ntmps73 rfl Tryd.results73 hlen h
abbrev f_tarmacref01_Unfold : Nat := 74
theorem en_tarmacref01_Unfold {args : List Value} {w : World} {R : Value → World → Prop} (hlen : Nat.ble args.length 14 = true) (h : SemW Tryd.prog 14 (Tryd.f74.body.getD .skip) (retQ tbl [.tmp 2] R) (argEnv 0 args) w) : Cl Tryd.prog 74 args w R :=
  Cl.enter tblOk Tryd.call74 Tryd.func74 Tryd.ntmps74 rfl Tryd.results74 hlen h
theorem en_internal_strconv_Itoa {args : List Value} {w : World} {R : Value → World → Prop} (hlen : Nat.ble args.length 5 = true) (h : SemW Tryd.prog 5 (Tryd.f75.body.getD .skip) (retQ tbl [.tmp 2] R) (argEnv 0 args) w) : Cl Tryd.prog 75 args w R :=
  Cl.enter tblOk Tryd.call75 Tryd.func75 Tryd.ntmps75 rfl Tryd.results75 hlen h
abbrev f_internal_abi_NoEscape : Nat := 78
theorem func_internal_abi_NoEscape : Tryd.prog.funcs[78]? = some Tryd.f78 := Tryd.func78
abbrev f_tarmacref02_four : Nat := 79
theorem en_tarmacref02_four {args : List Value} {w : World} {R : Value → World → Prop} (hlen : Nat.ble args.length 19 = true) (h : SemW Tryd.prog 19 (Tryd.f79.body.getD .skip) (retQ tbl [.tmp 2] R) (argEnv 0 args) w) : Cl Tryd.prog 79 args w R :=
  Cl.enter tblOk Tryd.call79 Tryd.func79 Tryd.ntmps79 rfl Tryd.results79 hlen h
abbrev f_tarmacref02_Sum : Nat := 80
theorem en_tarmacref02_Sum {args : List Value} {w : World} {R : Value → World → Prop} (hlen : Nat.ble args.length 33 = true) (h : SemW Tryd.prog 33 (Tryd.f80.body.getD .skip) (retQ tbl [.tmp 2] R) (argEnv 0 args) w) : Cl Tryd.prog 80 args w R :=
  Cl.enter tblOk Tryd.call80 Tryd.func80 Tryd.ntmps80 rfl Tryd.results80 hlen h
theorem en_internal_strconv_FormatInt {args : List Value} {w : World} {R : Value → World → Prop} (hlen : Nat.ble args.length 54 = true) (h : SemW Tryd.prog 54 (Tryd.f81.body.getD .skip) (retQ tbl [.tmp 4] R) (argEnv 0 args) w) : Cl Tryd.prog 81 args w R :=
  Cl.enter tblOk Tryd.call81 Tryd.func81 Tryd.ntmps81 rfl Tryd.results81 hlen h
abbrev f_internal_strconv_small : Nat := 87
theorem en_internal_strconv_small {args : List Value} {w : World} {R : Value → World → Prop} (hlen : Nat.ble args.length 15 = true) (h : SemW Tryd.prog 15 (Tryd.f87.body.getD .skip) (retQ tbl [.tmp 2] R) (argEnv 0 args) w) : Cl Tryd.prog 87 args w R :=
  Cl.enter tblOk Tryd.call87 Tryd.func87 Tryd.ntmps87 rfl Tryd.results87 hlen h
abbrev f_wire_writer_count : Nat := 118
theorem en_wire_writer_count {args : List Value} {w : World} {R : Value → World → Prop} (hlen : Nat.ble args.length 12 = true) (h : SemW Tryd.prog 12 (Tryd.f118.body.getD .skip) (retQ tbl [.tmp 4] R) (argEnv 0 args) w) : Cl Tryd.prog 118 args w R :=
  Cl.enter tblOk Tryd.call118 Tryd.func118 Tryd.ntmps118 rfl Tryd.results118 hlen h
abbrev f_wire_writer_int : Nat := 119
theorem en_wire_writer_int {args : List Value} {w : World} {R : Value → World → Prop} (hlen : Nat.ble args.length 20 = true) (h : SemW Tryd.prog 20 (Tryd.f119.body.getD .skip) (retQ tbl [] R) (argEnv 0 args) w) : Cl Tryd.prog 119 args w R :=
  Cl.enter tblOk Tryd.call119 Tryd.func119 Tryd.ntmps119 rfl Tryd.results119 hlen h
abbrev f_wire_writer_letter : Nat := 120
theorem en_wire_writer_letter {args : List Value} {w : World} {R : Value → World → Prop} (hlen : Nat.ble args.length 12 = true) (h : SemW Tryd.prog 12 (Tryd.f120.body.getD .skip) (retQ tbl [] R) (argEnv 0 args) w) : Cl Tryd.prog 120 args w R :=
  Cl.enter tblOk Tryd.call120 Tryd.func120 Tryd.ntmps120 rfl Tryd.results120 hlen h
abbrev f_wire_writer_marks : Nat := 121
theorem en_wire_writer_marks {args : List Value} {w : World} {R : Value → World → Prop} (hlen : Nat.ble args.length 28 = true) (h : SemW Tryd.prog 28 (Tryd.f121.body.getD .skip) (retQ tbl [] R) (argEnv 0 args) w) : Cl Tryd.prog 121 args w R :=
  Cl.enter tblOk Tryd.call121 Tryd.func121 Tryd.ntmps121 rfl Tryd.results121 hlen h
abbrev f_wire_writer_text : Nat := 122
theorem en_wire_writer_text {args : List Value} {w : World} {R : Value → World → Prop} (hlen : Nat.ble args.length 11 = true) (h : SemW Tryd.prog 11 (Tryd.f122.body.getD .skip) (retQ tbl [] R) (argEnv 0 args) w) : Cl Tryd.prog 122 args w R :=
  Cl.enter tblOk Tryd.call122 Tryd.func122 Tryd.ntmps122 rfl Tryd.results122 hlen h
abbrev f_pack_Writer_Text : Nat := 123
theorem en_pack_Writer_Text {args : List Value} {w : World} {R : Value → World → Prop} (hlen : Nat.ble args.length 23 = true) (h : SemW Tryd.prog 23 (Tryd.f123.body.getD .skip) (retQ tbl [] R) (argEnv 0 args) w) : Cl Tryd.prog 123 args w R :=
  Cl.enter tblOk Tryd.call123 Tryd.func123 Tryd.ntmps123 rfl Tryd.results123 hlen h
abbrev f_wire_reader_count : Nat := 124
theorem en_wire_reader_count {args : List Value} {w : World} {R : Value → World → Prop} (hlen : Nat.ble args.length 14 = true) (h : SemW Tryd.prog 14 (Tryd.f124.body.getD .skip) (retQ tbl [.tmp 4] R) (argEnv 0 args) w) : Cl Tryd.prog 124 args w R :=
  Cl.enter tblOk Tryd.call124 Tryd.func124 Tryd.ntmps124 rfl Tryd.results124 hlen h
abbrev f_wire_reader_letter : Nat := 125
theorem en_wire_reader_letter {args : List Value} {w : World} {R : Value → World → Prop} (hlen : Nat.ble args.length 9 = true) (h : SemW Tryd.prog 9 (Tryd.f125.body.getD .skip) (retQ tbl [] R) (argEnv 0 args) w) : Cl Tryd.prog 125 args w R :=
  Cl.enter tblOk Tryd.call125 Tryd.func125 Tryd.ntmps125 rfl Tryd.results125 hlen h
abbrev f_wire_reader_marks : Nat := 126
theorem en_wire_reader_marks {args : List Value} {w : World} {R : Value → World → Prop} (hlen : Nat.ble args.length 30 = true) (h : SemW Tryd.prog 30 (Tryd.f126.body.getD .skip) (retQ tbl [] R) (argEnv 0 args) w) : Cl Tryd.prog 126 args w R :=
  Cl.enter tblOk Tryd.call126 Tryd.func126 Tryd.ntmps126 rfl Tryd.results126 hlen h
abbrev f_wire_reader_text : Nat := 127
theorem en_wire_reader_text {args : List Value} {w : World} {R : Value → World → Prop} (hlen : Nat.ble args.length 28 = true) (h : SemW Tryd.prog 28 (Tryd.f127.body.getD .skip) (retQ tbl [] R) (argEnv 0 args) w) : Cl Tryd.prog 127 args w R :=
  Cl.enter tblOk Tryd.call127 Tryd.func127 Tryd.ntmps127 rfl Tryd.results127 hlen h
abbrev f_pack_Reader_Left : Nat := 128
theorem en_pack_Reader_Left {args : List Value} {w : World} {R : Value → World → Prop} (hlen : Nat.ble args.length 8 = true) (h : SemW Tryd.prog 8 (Tryd.f128.body.getD .skip) (retQ tbl [.tmp 2] R) (argEnv 0 args) w) : Cl Tryd.prog 128 args w R :=
  Cl.enter tblOk Tryd.call128 Tryd.func128 Tryd.ntmps128 rfl Tryd.results128 hlen h
abbrev f_pack_Reader_Text : Nat := 129
theorem en_pack_Reader_Text {args : List Value} {w : World} {R : Value → World → Prop} (hlen : Nat.ble args.length 49 = true) (h : SemW Tryd.prog 49 (Tryd.f129.body.getD .skip) (retQ tbl [.tmp 2, .tmp 3] R) (argEnv 0 args) w) : Cl Tryd.prog 129 args w R :=
  Cl.enter tblOk Tryd.call129 Tryd.func129 Tryd.ntmps129 rfl Tryd.results129 hlen h
end Go.Proofs.YthpmmfapolcaiaaDoor

/- Conversions between byte slices and strings; integers of unsigned kinds as natural numbers. -/
namespace Go.Eng
open Go
section
variable {P : Program} {T0 : Tbl}

theorem foldl_push_bytes : ∀ (l : List UInt8) (r : ByteArray), (l.map (fun b => (b.toNat : Int))).foldl (fun r n => r.push (UInt8.ofNat n.toNat)) r = ⟨r.data ++ l.toArray⟩
  | [], r => by simp
  | b :: l, r => by
    simp only [List.map_cons, List.foldl_cons, foldl_push_bytes l]
    apply ByteArray.ext
    simp

/-- string(b): the slice's bytes, in every world of C. -/
theorem toStr (hT : TOk P T0) {s d e : TypeId} {i ie id : TI} (hi : tf T0 s = some i) (hk : i.k = .slice e 1) (hie : tf T0 e = some ie) (hke : ie.k = .int .u8) (hid : tf T0 d = some id) (hkd : id.k = .str)
    {C : World → Prop} {T : List Nat} {a : Option Addr} {bs : List UInt8} {n cap : Nat} (hn : bs.length = n) (ha : ∀ w, C w → Arr w T a (bs.map byteV)) {K : Value → Prop} (hK : K (Str bs)) :
    RdG P (convert s d (.slice a n cap)) C K := by
  refine ⟨⟨_, fun w hw => ?_, hK⟩⟩
  have hs := und_of hT hi; rw [hk] at hs
  have he := und_of hT hie; rw [hke] at he
  have hd := und_of hT hid; rw [hkd] at hd
  rw [run_convert_bytes_string w s d e a n cap hs.1 he hd]
  cases a with
  | none =>
    cases bs with
    | nil => rfl
    | cons b bs => obtain ⟨_, _, h, _⟩ := ha w hw 0 (byteV b) rfl; cases h
  | some a =>
    have h1 := run_loadCells_list (P := P) (w := w) a ((bs.map fun b => (b.toNat : Int)).map (Value.int .u8)) (fun j v hj => by
      have hj' : (bs.map byteV)[j]? = some v := by simpa [byteV, List.getElem?_map, Function.comp] using hj
      obtain ⟨bk, off, h1, _, h3⟩ := ha w hw j v hj'
      cases h1
      rw [Addr.add_eq]; exact h3)
    rw [run_bytesToString (P := P) w a n cap (bs.map fun b => (b.toNat : Int)) (by simpa [hn] using h1)]
    congr 2
    rw [foldl_push_bytes]
    simp
end

/-! ### Unsigned integers -/
theorem wrapU (k : IntKind) (hs : k.signed = false) (n : Nat) : k.wrap (n : Int) = ((n % 2 ^ k.bits : Nat) : Int) := by
  unfold IntKind.wrap; simp only [hs]; simp
theorem u8wrap (n : Nat) : IntKind.u8.wrap (n : Int) = ((UInt8.ofNat n).toNat : Int) := by
  rw [wrapU .u8 rfl]; simp [UInt8.toNat_ofNat']; rfl
theorem fdivU (n k : Nat) : (n : Int).fdiv (k : Int) = ((n / k : Nat) : Int) := by
  rw [← Int.ofNat_fdiv]
theorem fdivP (n k : Nat) : (n : Int).fdiv (2 ^ k) = ((n / 2 ^ k : Nat) : Int) := by
  have : ((2 : Int) ^ k) = ((2 ^ k : Nat) : Int) := by simp
  rw [this, fdivU]
theorem orU (k : IntKind) (hs : k.signed = false) (x y : Nat) (hx : x < 2 ^ k.bits) (hy : y < 2 ^ k.bits) : orI k x y = ((x ||| y : Nat) : Int) := by
  unfold orI
  rw [BitVec.toNat_or, BitVec.ofInt_natCast, BitVec.ofInt_natCast, BitVec.toNat_ofNat, BitVec.toNat_ofNat, Nat.mod_eq_of_lt hx, Nat.mod_eq_of_lt hy, wrapU k hs, Nat.mod_eq_of_lt (Nat.or_lt_two_pow hx hy)]
theorem andU (k : IntKind) (hs : k.signed = false) (x y : Nat) (hx : x < 2 ^ k.bits) (hy : y < 2 ^ k.bits) : andI k x y = ((x &&& y : Nat) : Int) := by
  unfold andI
  rw [BitVec.toNat_and, BitVec.ofInt_natCast, BitVec.ofInt_natCast, BitVec.toNat_ofNat, BitVec.toNat_ofNat, Nat.mod_eq_of_lt hx, Nat.mod_eq_of_lt hy, wrapU k hs, Nat.mod_eq_of_lt (Nat.and_lt_two_pow _ hy)]
theorem xorU (k : IntKind) (hs : k.signed = false) (x y : Nat) (hx : x < 2 ^ k.bits) (hy : y < 2 ^ k.bits) : xorI k x y = ((x ^^^ y : Nat) : Int) := by
  unfold xorI
  rw [BitVec.toNat_xor, BitVec.ofInt_natCast, BitVec.ofInt_natCast, BitVec.toNat_ofNat, BitVec.toNat_ofNat, Nat.mod_eq_of_lt hx, Nat.mod_eq_of_lt hy, wrapU k hs, Nat.mod_eq_of_lt (Nat.xor_lt_two_pow hx hy)]
theorem or_add (a b k : Nat) (hb : b < 2 ^ k) : (a * 2 ^ k) ||| b = a * 2 ^ k + b := by
  rw [← Nat.shiftLeft_eq, Nat.shiftLeft_add_eq_or_of_lt hb]
end Go.Eng

/- Package pack: the writer. -/
namespace Go.Proofs.YthpmmfapolcaiaaDoor
open Go Go.Eng Go.Proofs

/-- []byte(s): a block of the call's own. -/
theorem St.toBytes {P : Program} {T0 : Tbl} (hT : TOk P T0) {t u e : TypeId} {i iu ie : TI} (hi : tf T0 t = some i) (hk : i.k = .slice e 1) (hiu : tf T0 u = some iu) (hku : iu.k = .str) (hie : tf T0 e = some ie) (hke : ie.k = .int .u8)
    {w0 w : World} {T : List Nat} {H : Heap} (hS : St w0 T H w) {s : Bytes} {K : Value → World → Prop}
    (h : ∀ b c z fz w', s.length ≤ c ∧ s.length ≤ fz.1 → St w0 T ((b, .cells ⟨s.map byteV ++ z⟩ e fz) :: H) w' → K (.slice (some ⟨b, 0, none⟩) s.length c) w') : RunG P (convert u t (Str s)) w K := by
  have h1 := und_of hT hiu; rw [hku] at h1
  have h2 := und_of hT hi; rw [hk] at h2
  have h3 := und_of hT hie; rw [hke] at h3
  have hge := grownCap_ge w s.length 0 e
  have e1 : bytesRow ⟨⟨s⟩⟩ (grownCap w s.length 0 e) = ⟨s.map byteV ++ List.replicate (grownCap w s.length 0 e - s.length) (.int .u8 0)⟩ := by
    apply Array.ext'
    simp [bytesRow]; rfl
  have hrun : (convert u t (Str s)).run P w = .ok (.slice (some ⟨w.heap.size, 0, none⟩) s.length (grownCap w s.length 0 e))
      (w.drew.alloc (.cells (bytesRow ⟨⟨s⟩⟩ (grownCap w s.length 0 e)) e ((bytesRow ⟨⟨s⟩⟩ (grownCap w s.length 0 e)).size, (bytesRow ⟨⟨s⟩⟩ (grownCap w s.length 0 e)).size + 1))) := run_bytes_of_string w u t e ⟨⟨s⟩⟩ h1 h2.1 h3
  rw [e1] at hrun
  exact RunG.of hrun (h _ _ _ _ _ ⟨hge, by simp⟩ (hS.drew.alloc _))

inductive PackW (b : Nat) (bs : Bytes) : Heap → Prop where
  | mk (a : Option Addr) (cap : Nat) (L : Heap) (hv : Vec T_uint8 1 a bs.length cap (bs.map byteV) L) : PackW b bs ((b, .cells ⟨[.int .i64 bs.length, .slice a bs.length cap]⟩ T_pack_Writer (0, 0)) :: L)
theorem PNew_spec {w : World} : Cl Tryd.prog f_pack_New [] w fun v w' => ∃ b L, v = ptr b ∧ PackW b [] L ∧ St w [] L w' := by
  have hS := St.start w
  refine en_pack_New rfl ?_
  repeat (first | refine SemW.run tblOk ?_ | refine jA (by omega) ?_ | refine jB (by omega) ?_ | refine jC (by omega) ?_ | refine jD (by omega) ?_ | refine jE rfl ?_ | refine jF (by omega) ?_ | (refine jG ?_; first | with_reducible (first | refine jH ?_ | refine jI ?_ | refine jJ ?_ | refine jK ?_ | refine jL ?_) | refine jM (by omega) ?_ | refine jN (by omega) ?_ | with_reducible refine jM rfl ?_ | refine jM (by assumption) ?_ | refine jN (by assumption) ?_ | refine jM (by decide) ?_ | refine jN (by decide) ?_) | refine jF (ptr_ok tblOk rfl rfl) ?_ | refine jO (fun _ => by kernel_rfl) ?_ | refine jF (by decide) ?_)
  refine hS.al ?_
  intro b w1 _ hS
  repeat (first | refine SemW.run tblOk ?_ | refine jA (by omega) ?_ | refine jB (by omega) ?_ | refine jC (by omega) ?_ | refine jD (by omega) ?_ | refine jE rfl ?_ | refine jF (by omega) ?_ | (refine jG ?_; first | with_reducible (first | refine jH ?_ | refine jI ?_ | refine jJ ?_ | refine jK ?_ | refine jL ?_) | refine jM (by omega) ?_ | refine jN (by omega) ?_ | with_reducible refine jM rfl ?_ | refine jM (by assumption) ?_ | refine jN (by assumption) ?_ | refine jM (by decide) ?_ | refine jN (by decide) ?_) | refine jF (ptr_ok tblOk rfl rfl) ?_ | refine jO (fun _ => by kernel_rfl) ?_ | refine jF (by decide) ?_)
  exact ⟨b, _, rfl, PackW.mk none 0 [] Vec.nil, hS⟩
theorem add_spec {w : World} {b : Nat} {bs : Bytes} {L : Heap} (hW : PackW b bs L) (hh : Holds L w) {a : Option Addr} {cap : Nat} {xs : Bytes} (ha : Arr w (keys L) a (xs.map byteV)) (hlen : bs.length + xs.length ≤ 140737488355328) :
    Cl Tryd.prog f_pack_Writer_add [ptr b, .slice a xs.length cap] w fun _ w' => ∃ L', PackW b (bs ++ xs) L' ∧ St w (keys L) L' w' := by
  have hS := St.enter hh
  generalize hT : keys L = T0 at hS ha ⊢
  obtain ⟨a0, c0, L0, hv⟩ := hW
  refine en_pack_Writer_add rfl ?_
  repeat (first | refine SemW.run tblOk ?_ | refine jA (by omega) ?_ | refine jB (by omega) ?_ | refine jC (by omega) ?_ | refine jD (by omega) ?_ | refine jE rfl ?_ | refine jF (by omega) ?_ | (refine jG ?_; first | with_reducible (first | refine jH ?_ | refine jI ?_ | refine jJ ?_ | refine jK ?_ | refine jL ?_) | refine jM (by omega) ?_ | refine jN (by omega) ?_ | with_reducible refine jM rfl ?_ | refine jM (by assumption) ?_ | refine jN (by assumption) ?_ | refine jM (by decide) ?_ | refine jN (by decide) ?_) | refine jF (ptr_ok tblOk rfl rfl) ?_ | refine jO (fun _ => by kernel_rfl) ?_ | refine jF (by decide) ?_ | refine hS.ld rfl ?_ | refine hS.ldn rfl ?_ | (refine hS.st rfl rfl ?_; intro _ hS))
  refine St.app (sz := 1) (m := xs.length) tblOk rfl rfl rfl rfl hS hv (news := xs.map byteV) (by simp) ((hS.arrOld ha).sub (by simp)) (by simp [byteV, Value.oneCell']) (by show (_ + _) * 1 ≤ _; omega) (by omega) ?_
  intro a' c' L' w' hv' hS
  have hl : (bs ++ xs).length = bs.length + xs.length := List.length_append
  rw [← hl, ← List.map_append] at hv'
  rw [← hl]
  repeat (first | refine SemW.run tblOk ?_ | refine jA (by omega) ?_ | refine jB (by omega) ?_ | refine jC (by omega) ?_ | refine jD (by omega) ?_ | refine jE rfl ?_ | refine jF (by omega) ?_ | (refine jG ?_; first | with_reducible (first | refine jH ?_ | refine jI ?_ | refine jJ ?_ | refine jK ?_ | refine jL ?_) | refine jM (by omega) ?_ | refine jN (by omega) ?_ | with_reducible refine jM rfl ?_ | refine jM (by assumption) ?_ | refine jN (by assumption) ?_ | refine jM (by decide) ?_ | refine jN (by decide) ?_) | refine jF (ptr_ok tblOk rfl rfl) ?_ | refine jO (fun _ => by kernel_rfl) ?_ | refine jF (by decide) ?_ | refine hS.ld rfl ?_ | refine hS.ldn rfl ?_ | (refine hS.st rfl rfl ?_; intro _ hS))
  refine ⟨_, PackW.mk a' c' L' hv', ?_⟩
  rw [show (((bs ++ xs).length : Nat) : Int) = (bs.length : Int) + (xs.length : Int) by rw [hl]; omega]
  exact hS

def u64V (n : Nat) : Value := .int .u64 n
theorem or128 (m : Nat) : orI .u8 (IntKind.u8.wrap (m : Int)) 128 = (((UInt8.ofNat (m % 128 + 128)).toNat : Nat) : Int) := by
  have e1 : IntKind.u8.wrap (m : Int) = ((m % 256 : Nat) : Int) := wrapU .u8 rfl m
  rw [e1]
  have h := Nat.mod_lt m (show 0 < 256 by omega)
  have e2 : m % 128 = m % 256 % 128 := by omega
  rw [e2]
  generalize m % 256 = r at h
  have key : ∀ r : Fin 256, orI .u8 ((r.val : Nat) : Int) 128 = (((UInt8.ofNat (r.val % 128 + 128)).toNat : Nat) : Int) := by decide +kernel
  exact key ⟨r, h⟩
theorem numbs_succ (ns : List Nat) (k : Nat) (hk : k < ns.length) : ((ns.take (k + 1)).map numB).flatten = ((ns.take k).map numB).flatten ++ numB ns[k] := by
  rw [List.take_succ_eq_append_getElem hk, List.map_append, List.flatten_append, List.map_cons, List.map_nil, List.flatten_cons, List.flatten_nil, List.append_nil]
theorem numB_len10 (n : Nat) (h : n < 18446744073709551616) : (numB n).length ≤ 10 := numB_len 9 n (Nat.lt_of_lt_of_le h (by decide))
theorem numbs_len (ns : List Nat) (h : ∀ n ∈ ns, n < 18446744073709551616) : ((ns.map numB).flatten).length ≤ 10 * ns.length := by
  induction ns with
  | nil => simp
  | cons n r ih =>
    have h1 := numB_len10 n (h n (by simp))
    have h2 := ih (fun m hm => h m (List.mem_cons_of_mem _ hm))
    simp only [List.map_cons, List.flatten_cons, List.length_append, List.length_cons]; omega
theorem byteV_ofNat (m : Nat) (h : m < 256) : byteV (UInt8.ofNat m) = .int .u8 (m : Int) := by
  have : (UInt8.ofNat m).toNat = m := by simp; omega
  unfold byteV; rw [this]

set_option maxHeartbeats 1000000 in
theorem Num_spec {w : World} {b : Nat} {bs : Bytes} {L : Heap} (hW : PackW b bs L) (hh : Holds L w) {a : Option Addr} {cap : Nat} {ns : List Nat} (ha : Arr w (keys L) a (ns.map u64V)) (hn : ∀ n ∈ ns, n < 18446744073709551616) (_hl : ns.length ≤ 1099511627776) (hlen : bs.length + 10 * ns.length ≤ 140737488355328) :
    Cl Tryd.prog f_pack_Writer_Num [ptr b, .slice a ns.length cap] w fun _ w' => ∃ L', PackW b (bs ++ (ns.map numB).flatten) L' ∧ St w (keys L) L' w' := by
  have hS := St.enter hh
  generalize hT : keys L = T0 at hS ha ⊢
  refine en_pack_Writer_Num rfl ?_
  repeat (first | refine SemW.run tblOk ?_ | refine jA (by omega) ?_ | refine jB (by omega) ?_ | refine jC (by omega) ?_ | refine jD (by omega) ?_ | refine jE rfl ?_ | refine jF (by omega) ?_ | (refine jG ?_; first | with_reducible (first | refine jH ?_ | refine jI ?_ | refine jJ ?_ | refine jK ?_ | refine jL ?_) | refine jM (by omega) ?_ | refine jN (by omega) ?_ | with_reducible refine jM rfl ?_ | refine jM (by assumption) ?_ | refine jN (by assumption) ?_ | refine jM (by decide) ?_ | refine jN (by decide) ?_) | refine jF (ptr_ok tblOk rfl rfl) ?_ | refine jO (fun _ => by kernel_rfl) ?_ | refine jF (by decide) ?_)
  refine SemW.loop (fun k : Nat => [(0, ptr b), (6, .slice a ns.length cap), (7, .int .i64 ns.length), (8, .int .i64 k)])
    (fun k w' => k ≤ ns.length ∧ ∃ L', PackW b (bs ++ ((ns.take k).map numB).flatten) L' ∧ St w T0 L' w') (fun k => ns.length - k) 0
    ⟨rfl, rfl, rfl, rfl, trivial⟩ ⟨Nat.zero_le _, L, by simpa using hW, hS⟩ ?_
  rintro k w1 ⟨hk, L1, hW1, hS⟩
  by_cases hkl : k < ns.length
  · obtain ⟨b', off', rfl, hbT, hck⟩ := ha.get (j := k) (by simp; omega)
    simp only [List.getElem_map] at hck
    have hs := numbs_succ ns k hkl
    have hnk := hn ns[k] (List.getElem_mem hkl)
    have hln := numbs_len (ns.take k) (fun n h => hn n (List.mem_of_mem_take h))
    have hlt : (ns.take k).length = k := by simp; omega
    have h10 := numB_len10 _ hnk
    repeat (first | refine SemW.run tblOk ?_ | refine jA (by omega) ?_ | refine jB (by omega) ?_ | refine jC (by omega) ?_ | refine jD (by omega) ?_ | refine jE rfl ?_ | refine jF (by omega) ?_ | (refine jG ?_; first | with_reducible (first | refine jH ?_ | refine jI ?_ | refine jJ ?_ | refine jK ?_ | refine jL ?_) | refine jM (by omega) ?_ | refine jN (by omega) ?_ | with_reducible refine jM rfl ?_ | refine jM (by assumption) ?_ | refine jN (by assumption) ?_ | refine jM (by decide) ?_ | refine jN (by decide) ?_) | refine jF (ptr_ok tblOk rfl rfl) ?_ | refine jO (fun _ => by kernel_rfl) ?_ | refine jF (by decide) ?_)
    refine hS.ldOld hbT (by simpa using hck) ?_
    repeat (first | refine SemW.run tblOk ?_ | refine jA (by omega) ?_ | refine jB (by omega) ?_ | refine jC (by omega) ?_ | refine jD (by omega) ?_ | refine jE rfl ?_ | refine jF (by omega) ?_ | (refine jG ?_; first | with_reducible (first | refine jH ?_ | refine jI ?_ | refine jJ ?_ | refine jK ?_ | refine jL ?_) | refine jM (by omega) ?_ | refine jN (by omega) ?_ | with_reducible refine jM rfl ?_ | refine jM (by assumption) ?_ | refine jN (by assumption) ?_ | refine jM (by decide) ?_ | refine jN (by decide) ?_) | refine jF (ptr_ok tblOk rfl rfl) ?_ | refine jO (fun _ => by kernel_rfl) ?_ | refine jF (by decide) ?_)
    refine SemW.loop (fun x : Nat × Bytes => [(0, ptr b), (5, u64V x.1), (6, .slice (some ⟨b', off', none⟩) ns.length cap), (7, .int .i64 ns.length), (8, .int .i64 k)])
      (fun x w' => x.2 ++ numB x.1 = numB ns[k] ∧ ∃ L', PackW b (bs ++ ((ns.take k).map numB).flatten ++ x.2) L' ∧ St w T0 L' w') (fun x => x.1) (ns[k], [])
      ⟨rfl, rfl, rfl, rfl, rfl, trivial⟩ ⟨rfl, L1, by simpa using hW1, hS⟩ ?_
    rintro ⟨m, p⟩ w2 ⟨hp, L2, hW2, hS⟩
    simp only at hp hW2 ⊢
    have hpl := congrArg List.length hp
    rw [List.length_append] at hpl
    have hpos := numB_pos m
    by_cases hm : m < 128
    · rw [numB_lt hm] at hp
      repeat (first | refine SemW.run tblOk ?_ | refine jA (by omega) ?_ | refine jB (by omega) ?_ | refine jC (by omega) ?_ | refine jD (by omega) ?_ | refine jE rfl ?_ | refine jF (by omega) ?_ | (refine jG ?_; first | with_reducible (first | refine jH ?_ | refine jI ?_ | refine jJ ?_ | refine jK ?_ | refine jL ?_) | refine jM (by omega) ?_ | refine jN (by omega) ?_ | with_reducible refine jM rfl ?_ | refine jM (by assumption) ?_ | refine jN (by assumption) ?_ | refine jM (by decide) ?_ | refine jN (by decide) ?_) | refine jF (ptr_ok tblOk rfl rfl) ?_ | refine jO (fun _ => by kernel_rfl) ?_ | refine jF (by decide) ?_)
      refine hS.al ?_
      intro r w3 _ hS
      repeat (first | refine SemW.run tblOk ?_ | refine jA (by omega) ?_ | refine jB (by omega) ?_ | refine jC (by omega) ?_ | refine jD (by omega) ?_ | refine jE rfl ?_ | refine jF (by omega) ?_ | (refine jG ?_; first | with_reducible (first | refine jH ?_ | refine jI ?_ | refine jJ ?_ | refine jK ?_ | refine jL ?_) | refine jM (by omega) ?_ | refine jN (by omega) ?_ | with_reducible refine jM rfl ?_ | refine jM (by assumption) ?_ | refine jN (by assumption) ?_ | refine jM (by decide) ?_ | refine jN (by decide) ?_) | refine jF (ptr_ok tblOk rfl rfl) ?_ | refine jO (fun _ => by kernel_rfl) ?_ | refine jF (by decide) ?_)
      refine Cl.mono (add_spec hW2 (hS.part (L := L2)) (xs := [UInt8.ofNat m]) (by rw [List.map_cons, byteV_ofNat m (by omega)]; exact hS.arr (b := r) (nodup_new hS)) (by rw [List.length_append, List.length_append, List.length_singleton]; omega)) ?_
      rintro _ w4 ⟨L3, hW3, hS'⟩
      have hS := (hS.call (L := L2) hS').sub (List.sublist_cons_self _ _)
      repeat (first | refine SemW.run tblOk ?_ | refine jA (by omega) ?_ | refine jB (by omega) ?_ | refine jC (by omega) ?_ | refine jD (by omega) ?_ | refine jE rfl ?_ | refine jF (by omega) ?_ | (refine jG ?_; first | with_reducible (first | refine jH ?_ | refine jI ?_ | refine jJ ?_ | refine jK ?_ | refine jL ?_) | refine jM (by omega) ?_ | refine jN (by omega) ?_ | with_reducible refine jM rfl ?_ | refine jM (by assumption) ?_ | refine jN (by assumption) ?_ | refine jM (by decide) ?_ | refine jN (by decide) ?_) | refine jF (ptr_ok tblOk rfl rfl) ?_ | refine jO (fun _ => by kernel_rfl) ?_ | refine jF (by decide) ?_)
      refine ⟨k + 1, ⟨rfl, rfl, rfl, rfl, trivial⟩, ⟨by omega, L3, ?_, hS⟩, by omega⟩
      rw [hs, ← hp, ← List.append_assoc, ← List.append_assoc]
      exact hW3
    · rw [numB_ge hm] at hp
      have hpos2 := numB_pos (m / 128)
      rw [numB_ge hm, List.length_cons] at hpl
      repeat (first | refine SemW.run tblOk ?_ | refine jA (by omega) ?_ | refine jB (by omega) ?_ | refine jC (by omega) ?_ | refine jD (by omega) ?_ | refine jE rfl ?_ | refine jF (by omega) ?_ | (refine jG ?_; first | with_reducible (first | refine jH ?_ | refine jI ?_ | refine jJ ?_ | refine jK ?_ | refine jL ?_) | refine jM (by omega) ?_ | refine jN (by omega) ?_ | with_reducible refine jM rfl ?_ | refine jM (by assumption) ?_ | refine jN (by assumption) ?_ | refine jM (by decide) ?_ | refine jN (by decide) ?_) | refine jF (ptr_ok tblOk rfl rfl) ?_ | refine jO (fun _ => by kernel_rfl) ?_ | refine jF (by decide) ?_)
      refine hS.al ?_
      intro r w3 _ hS
      repeat (first | refine SemW.run tblOk ?_ | refine jA (by omega) ?_ | refine jB (by omega) ?_ | refine jC (by omega) ?_ | refine jD (by omega) ?_ | refine jE rfl ?_ | refine jF (by omega) ?_ | (refine jG ?_; first | with_reducible (first | refine jH ?_ | refine jI ?_ | refine jJ ?_ | refine jK ?_ | refine jL ?_) | refine jM (by omega) ?_ | refine jN (by omega) ?_ | with_reducible refine jM rfl ?_ | refine jM (by assumption) ?_ | refine jN (by assumption) ?_ | refine jM (by decide) ?_ | refine jN (by decide) ?_) | refine jF (ptr_ok tblOk rfl rfl) ?_ | refine jO (fun _ => by kernel_rfl) ?_ | refine jF (by decide) ?_)
      refine Cl.mono (add_spec hW2 (hS.part (L := L2)) (xs := [UInt8.ofNat (m % 128 + 128)]) (by have := hS.arr (b := r) (nodup_new hS); rw [or128] at this; exact this) (by rw [List.length_append, List.length_append, List.length_singleton]; omega)) ?_
      rintro _ w4 ⟨L3, hW3, hS'⟩
      have hS := (hS.call (L := L2) hS').sub (List.sublist_cons_self _ _)
      repeat (first | refine SemW.run tblOk ?_ | refine jA (by omega) ?_ | refine jB (by omega) ?_ | refine jC (by omega) ?_ | refine jD (by omega) ?_ | refine jE rfl ?_ | refine jF (by omega) ?_ | (refine jG ?_; first | with_reducible (first | refine jH ?_ | refine jI ?_ | refine jJ ?_ | refine jK ?_ | refine jL ?_) | refine jM (by omega) ?_ | refine jN (by omega) ?_ | with_reducible refine jM rfl ?_ | refine jM (by assumption) ?_ | refine jN (by assumption) ?_ | refine jM (by decide) ?_ | refine jN (by decide) ?_) | refine jF (ptr_ok tblOk rfl rfl) ?_ | refine jO (fun _ => by kernel_rfl) ?_ | refine jF (by decide) ?_)
      refine ⟨(m / 128, p ++ [UInt8.ofNat (m % 128 + 128)]), ⟨rfl, ?_, rfl, rfl, rfl, trivial⟩, ⟨by simpa using hp, L3, by rw [← List.append_assoc]; exact hW3, hS⟩, by simp only; omega⟩
      show Value.int .u64 ((m : Int).fdiv (2 ^ 7)) = u64V (m / 128)
      rw [fdivP]; rfl
  · have hke : k = ns.length := by omega
    subst hke
    rw [List.take_length] at hW1
    repeat (first | refine SemW.run tblOk ?_ | refine jA (by omega) ?_ | refine jB (by omega) ?_ | refine jC (by omega) ?_ | refine jD (by omega) ?_ | refine jE rfl ?_ | refine jF (by omega) ?_ | (refine jG ?_; first | with_reducible (first | refine jH ?_ | refine jI ?_ | refine jJ ?_ | refine jK ?_ | refine jL ?_) | refine jM (by omega) ?_ | refine jN (by omega) ?_ | with_reducible refine jM rfl ?_ | refine jM (by assumption) ?_ | refine jN (by assumption) ?_ | refine jM (by decide) ?_ | refine jN (by decide) ?_) | refine jF (ptr_ok tblOk rfl rfl) ?_ | refine jO (fun _ => by kernel_rfl) ?_ | refine jF (by decide) ?_)
    exact ⟨L1, hW1, hS⟩

/-- A whole number's fold, as the machine does it. -/
theorem zig_eq (z : Int) (h1 : -9223372036854775808 ≤ z) (h2 : z ≤ 9223372036854775807) :
    xorI .u64 (IntKind.u64.wrap (IntKind.u64.wrap z * 2 ^ 1)) (IntKind.u64.wrap (z.fdiv (2 ^ 63))) = (zig z : Int) ∧ zig z < 18446744073709551616 := by
  unfold zig
  by_cases h0 : 0 ≤ z
  · rw [if_pos h0]
    obtain ⟨n, rfl⟩ := Int.eq_ofNat_of_zero_le h0
    have e0 : ((n : Nat) : Int).toNat = n := Int.toNat_natCast n
    have e1 : IntKind.u64.wrap ((n : Nat) : Int) = (n : Int) := by rw [wrapU .u64 rfl]; congr 1; exact Nat.mod_eq_of_lt (by show n < 18446744073709551616; omega)
    have e2 : IntKind.u64.wrap ((n : Int) * 2 ^ 1) = ((2 * n : Nat) : Int) := by
      rw [show ((n : Nat) : Int) * 2 ^ 1 = ((2 * n : Nat) : Int) by omega, wrapU .u64 rfl]; congr 1; exact Nat.mod_eq_of_lt (by show 2 * n < 18446744073709551616; omega)
    have e3 : ((n : Nat) : Int).fdiv (2 ^ 63) = ((0 : Nat) : Int) := by
      rw [fdivP]; congr 1; exact Nat.div_eq_of_lt (by omega)
    have e4 : IntKind.u64.wrap ((0 : Nat) : Int) = ((0 : Nat) : Int) := by rw [wrapU .u64 rfl]; rfl
    rw [e0, e1, e2, e3, e4, xorU .u64 rfl _ _ (by show 2 * n < 18446744073709551616; omega) (by decide), Nat.xor_zero]
    exact ⟨rfl, by omega⟩
  · rw [if_neg h0]
    obtain ⟨n, hn⟩ : ∃ n : Nat, z = -(n : Int) - 1 := ⟨(-(z + 1)).toNat, by omega⟩
    subst hn
    have hn9 : n < 9223372036854775808 := by omega
    have e0 : (-(-(n : Int) - 1 + 1)).toNat = n := by omega
    have e1 : IntKind.u64.wrap (-(n : Int) - 1) = ((18446744073709551615 - n : Nat) : Int) := by
      unfold IntKind.wrap; simp only [IntKind.signed, IntKind.bits]; simp; omega
    have e2 : IntKind.u64.wrap (((18446744073709551615 - n : Nat) : Int) * 2 ^ 1) = ((18446744073709551614 - 2 * n : Nat) : Int) := by
      rw [show ((18446744073709551615 - n : Nat) : Int) * 2 ^ 1 = ((2 * (18446744073709551615 - n) : Nat) : Int) by omega, wrapU .u64 rfl]; congr 1
      show 2 * (18446744073709551615 - n) % 18446744073709551616 = _; omega
    have e3 : (-(n : Int) - 1).fdiv (2 ^ 63) = -1 := by
      rw [Int.fdiv_eq_ediv_of_nonneg _ (by decide)]; omega
    have e4 : IntKind.u64.wrap (-1) = ((18446744073709551615 : Nat) : Int) := by decide
    rw [e0, e1, e2, e3, e4, xorU .u64 rfl _ _ (by show _ < 18446744073709551616; omega) (by decide)]
    have e5 : (18446744073709551614 - 2 * n) ^^^ 18446744073709551615 = 2 * n + 1 := by
      have h1 : (BitVec.ofNat 64 (18446744073709551614 - 2 * n) ^^^ BitVec.allOnes 64).toNat = (18446744073709551614 - 2 * n) ^^^ 18446744073709551615 := by
        rw [BitVec.toNat_xor, BitVec.toNat_allOnes, BitVec.toNat_ofNat, Nat.mod_eq_of_lt (by omega)]
      rw [← h1, BitVec.xor_allOnes, BitVec.toNat_not, BitVec.toNat_ofNat, Nat.mod_eq_of_lt (by omega)]; omega
    rw [e5]
    exact ⟨rfl, by omega⟩
theorem ints_succ (zs : List Int) (k : Nat) (hk : k < zs.length) : intsB (zs.take (k + 1)) = intsB (zs.take k) ++ intB zs[k] := by
  unfold intsB
  rw [List.take_succ_eq_append_getElem hk, List.map_append, List.flatten_append, List.map_cons, List.map_nil, List.flatten_cons, List.flatten_nil, List.append_nil]
def i64ok (z : Int) : Prop := -9223372036854775808 ≤ z ∧ z ≤ 9223372036854775807
theorem ints_len (zs : List Int) (h : ∀ z ∈ zs, i64ok z) : (intsB zs).length ≤ 10 * zs.length := by
  induction zs with
  | nil => simp [intsB]
  | cons z r ih =>
    have h1 := numB_len10 (zig z) (zig_eq z (h z (by simp)).1 (h z (by simp)).2).2
    have h2 := ih (fun m hm => h m (List.mem_cons_of_mem _ hm))
    simp only [intsB, List.map_cons, List.flatten_cons, List.length_append, List.length_cons, intB] at h2 ⊢; omega
set_option maxHeartbeats 1000000 in
theorem Int_spec {w : World} {b : Nat} {bs : Bytes} {L : Heap} (hW : PackW b bs L) (hh : Holds L w) {a : Option Addr} {cap : Nat} {zs : List Int} (ha : Arr w (keys L) a (zs.map intV)) (hn : ∀ z ∈ zs, i64ok z) (_hl : zs.length ≤ 1099511627776) (hlen : bs.length + 10 * zs.length ≤ 140737488355328) :
    Cl Tryd.prog f_pack_Writer_Int [ptr b, .slice a zs.length cap] w fun _ w' => ∃ L', PackW b (bs ++ intsB zs) L' ∧ St w (keys L) L' w' := by
  have hS := St.enter hh
  generalize hT : keys L = T0 at hS ha ⊢
  refine en_pack_Writer_Int rfl ?_
  repeat (first | refine SemW.run tblOk ?_ | refine jA (by omega) ?_ | refine jB (by omega) ?_ | refine jC (by omega) ?_ | refine jD (by omega) ?_ | refine jE rfl ?_ | refine jF (by omega) ?_ | (refine jG ?_; first | with_reducible (first | refine jH ?_ | refine jI ?_ | refine jJ ?_ | refine jK ?_ | refine jL ?_) | refine jM (by omega) ?_ | refine jN (by omega) ?_ | with_reducible refine jM rfl ?_ | refine jM (by assumption) ?_ | refine jN (by assumption) ?_ | refine jM (by decide) ?_ | refine jN (by decide) ?_) | refine jF (ptr_ok tblOk rfl rfl) ?_ | refine jO (fun _ => by kernel_rfl) ?_ | refine jF (by decide) ?_)
  refine SemW.loop (fun k : Nat => [(0, ptr b), (6, .slice a zs.length cap), (7, .int .i64 zs.length), (8, .int .i64 k)])
    (fun k w' => k ≤ zs.length ∧ ∃ L', PackW b (bs ++ intsB (zs.take k)) L' ∧ St w T0 L' w') (fun k => zs.length - k) 0
    ⟨rfl, rfl, rfl, rfl, trivial⟩ ⟨Nat.zero_le _, L, by simpa [intsB] using hW, hS⟩ ?_
  rintro k w1 ⟨hk, L1, hW1, hS⟩
  by_cases hkl : k < zs.length
  · obtain ⟨b', off', rfl, hbT, hck⟩ := ha.get (j := k) (by simp; omega)
    simp only [List.getElem_map] at hck
    have hs := ints_succ zs k hkl
    obtain ⟨hr1, hr2⟩ := hn zs[k] (List.getElem_mem hkl)
    obtain ⟨hz1, hz2⟩ := zig_eq zs[k] hr1 hr2
    have hln := ints_len (zs.take k) (fun n h => hn n (List.mem_of_mem_take h))
    have hlt : (zs.take k).length = k := by simp; omega
    repeat (first | refine SemW.run tblOk ?_ | refine jA (by omega) ?_ | refine jB (by omega) ?_ | refine jC (by omega) ?_ | refine jD (by omega) ?_ | refine jE rfl ?_ | refine jF (by omega) ?_ | (refine jG ?_; first | with_reducible (first | refine jH ?_ | refine jI ?_ | refine jJ ?_ | refine jK ?_ | refine jL ?_) | refine jM (by omega) ?_ | refine jN (by omega) ?_ | with_reducible refine jM rfl ?_ | refine jM (by assumption) ?_ | refine jN (by assumption) ?_ | refine jM (by decide) ?_ | refine jN (by decide) ?_) | refine jF (ptr_ok tblOk rfl rfl) ?_ | refine jO (fun _ => by kernel_rfl) ?_ | refine jF (by decide) ?_)
    refine hS.ldOld hbT (by simpa using hck) ?_
    repeat (first | refine SemW.run tblOk ?_ | refine jA (by omega) ?_ | refine jB (by omega) ?_ | refine jC (by omega) ?_ | refine jD (by omega) ?_ | refine jE rfl ?_ | refine jF (by omega) ?_ | (refine jG ?_; first | with_reducible (first | refine jH ?_ | refine jI ?_ | refine jJ ?_ | refine jK ?_ | refine jL ?_) | refine jM (by omega) ?_ | refine jN (by omega) ?_ | with_reducible refine jM rfl ?_ | refine jM (by assumption) ?_ | refine jN (by assumption) ?_ | refine jM (by decide) ?_ | refine jN (by decide) ?_) | refine jF (ptr_ok tblOk rfl rfl) ?_ | refine jO (fun _ => by kernel_rfl) ?_ | refine jF (by decide) ?_)
    refine hS.al ?_
    intro r w3 _ hS
    repeat (first | refine SemW.run tblOk ?_ | refine jA (by omega) ?_ | refine jB (by omega) ?_ | refine jC (by omega) ?_ | refine jD (by omega) ?_ | refine jE rfl ?_ | refine jF (by omega) ?_ | (refine jG ?_; first | with_reducible (first | refine jH ?_ | refine jI ?_ | refine jJ ?_ | refine jK ?_ | refine jL ?_) | refine jM (by omega) ?_ | refine jN (by omega) ?_ | with_reducible refine jM rfl ?_ | refine jM (by assumption) ?_ | refine jN (by assumption) ?_ | refine jM (by decide) ?_ | refine jN (by decide) ?_) | refine jF (ptr_ok tblOk rfl rfl) ?_ | refine jO (fun _ => by kernel_rfl) ?_ | refine jF (by decide) ?_)
    refine Cl.mono (Num_spec hW1 (hS.part (L := L1)) (ns := [zig zs[k]]) (by have := hS.arr (b := r) (nodup_new hS); rw [show min (Int.toNat 1) IntKind.u64.bits = 1 from rfl, show min (Int.toNat 63) IntKind.i64.bits = 63 from rfl, hz1] at this; exact this) (by simpa using hz2) (by simp) (by rw [List.length_append, List.length_singleton]; omega)) ?_
    rintro _ w4 ⟨L3, hW3, hS'⟩
    have hS := (hS.call (L := L1) hS').sub (List.sublist_cons_self _ _)
    repeat (first | refine SemW.run tblOk ?_ | refine jA (by omega) ?_ | refine jB (by omega) ?_ | refine jC (by omega) ?_ | refine jD (by omega) ?_ | refine jE rfl ?_ | refine jF (by omega) ?_ | (refine jG ?_; first | with_reducible (first | refine jH ?_ | refine jI ?_ | refine jJ ?_ | refine jK ?_ | refine jL ?_) | refine jM (by omega) ?_ | refine jN (by omega) ?_ | with_reducible refine jM rfl ?_ | refine jM (by assumption) ?_ | refine jN (by assumption) ?_ | refine jM (by decide) ?_ | refine jN (by decide) ?_) | refine jF (ptr_ok tblOk rfl rfl) ?_ | refine jO (fun _ => by kernel_rfl) ?_ | refine jF (by decide) ?_)
    refine ⟨k + 1, ⟨rfl, rfl, rfl, rfl, trivial⟩, ⟨by omega, L3, ?_, hS⟩, by omega⟩
    rw [hs, ← List.append_assoc]
    simpa [intB] using hW3
  · have hke : k = zs.length := by omega
    subst hke
    rw [List.take_length] at hW1
    repeat (first | refine SemW.run tblOk ?_ | refine jA (by omega) ?_ | refine jB (by omega) ?_ | refine jC (by omega) ?_ | refine jD (by omega) ?_ | refine jE rfl ?_ | refine jF (by omega) ?_ | (refine jG ?_; first | with_reducible (first | refine jH ?_ | refine jI ?_ | refine jJ ?_ | refine jK ?_ | refine jL ?_) | refine jM (by omega) ?_ | refine jN (by omega) ?_ | with_reducible refine jM rfl ?_ | refine jM (by assumption) ?_ | refine jN (by assumption) ?_ | refine jM (by decide) ?_ | refine jN (by decide) ?_) | refine jF (ptr_ok tblOk rfl rfl) ?_ | refine jO (fun _ => by kernel_rfl) ?_ | refine jF (by decide) ?_)
    exact ⟨L1, hW1, hS⟩

theorem Bytes_spec {w : World} {b : Nat} {bs : Bytes} {L : Heap} (hW : PackW b bs L) (hh : Holds L w) : Cl Tryd.prog f_pack_Writer_Bytes [ptr b] w fun v w' => v = Str bs ∧ St w (keys L) L w' := by
  have hS := St.enter hh
  generalize hT : keys L = T0 at hS ⊢
  obtain ⟨a0, c0, L0, hv⟩ := hW
  refine en_pack_Writer_Bytes rfl ?_
  repeat (first | refine SemW.run tblOk ?_ | refine jA (by omega) ?_ | refine jB (by omega) ?_ | refine jC (by omega) ?_ | refine jD (by omega) ?_ | refine jE rfl ?_ | refine jF (by omega) ?_ | (refine jG ?_; first | with_reducible (first | refine jH ?_ | refine jI ?_ | refine jJ ?_ | refine jK ?_ | refine jL ?_) | refine jM (by omega) ?_ | refine jN (by omega) ?_ | with_reducible refine jM rfl ?_ | refine jM (by assumption) ?_ | refine jN (by assumption) ?_ | refine jM (by decide) ?_ | refine jN (by decide) ?_) | refine jF (ptr_ok tblOk rfl rfl) ?_ | refine jO (fun _ => by kernel_rfl) ?_ | refine jF (by decide) ?_ | refine hS.ld rfl ?_ | refine hS.ldn rfl ?_ | (refine hS.st rfl rfl ?_; intro _ hS))
  refine toStr (T := []) tblOk rfl rfl rfl rfl rfl rfl (bs := bs) rfl (fun w' hw' => by subst hw'; exact hv.arr hS (by simp)) ?_
  repeat (first | refine SemW.run tblOk ?_ | refine jA (by omega) ?_ | refine jB (by omega) ?_ | refine jC (by omega) ?_ | refine jD (by omega) ?_ | refine jE rfl ?_ | refine jF (by omega) ?_ | (refine jG ?_; first | with_reducible (first | refine jH ?_ | refine jI ?_ | refine jJ ?_ | refine jK ?_ | refine jL ?_) | refine jM (by omega) ?_ | refine jN (by omega) ?_ | with_reducible refine jM rfl ?_ | refine jM (by assumption) ?_ | refine jN (by assumption) ?_ | refine jM (by decide) ?_ | refine jN (by decide) ?_) | refine jF (ptr_ok tblOk rfl rfl) ?_ | refine jO (fun _ => by kernel_rfl) ?_ | refine jF (by decide) ?_)
  exact ⟨rfl, hS⟩
end Go.Proofs.YthpmmfapolcaiaaDoor

/- Own slices that begin anywhere in their block. -/
namespace Go.Eng
open Go

inductive VecO (e : TypeId) : Option Addr → Nat → Nat → List Value → Heap → Prop where
  | nil : VecO e none 0 0 [] []
  | row (g : Nat) (pre xs l post : List Value) (n cap : Nat) (fz : Nat × Nat) (hf : fz.2 ≤ pre.length ∨ (pre ++ (xs ++ (l ++ post))).length ≤ fz.1) (hx : xs.length = n) (hl : xs.length + l.length = cap) : VecO e (some ⟨g, pre.length, none⟩) n cap xs [(g, .cells ⟨pre ++ (xs ++ (l ++ post))⟩ e fz)]
theorem VecO.of {e : TypeId} {a : Option Addr} {n cap : Nat} {xs : List Value} {L : Heap} (h : Vec e 1 a n cap xs L) : VecO e a n cap xs L := by
  cases h with
  | nil => exact .nil
  | row g n cap xs l hx hl hn =>
    have := VecO.row (e := e) g [] xs l [] n cap (0, 0) (.inl (Nat.zero_le _)) (by omega) (by omega)
    simpa using this
theorem VecO.len {e : TypeId} {a : Option Addr} {n cap : Nat} {xs : List Value} {L : Heap} (h : VecO e a n cap xs L) : xs.length = n ∧ n ≤ cap := by
  cases h with
  | nil => exact ⟨rfl, Nat.le_refl _⟩
  | row g pre xs l post n cap fz hf hx hl => exact ⟨hx, by omega⟩
theorem VecO.pos {e : TypeId} {a : Option Addr} {n cap : Nat} {xs : List Value} {L : Heap} (h : VecO e a n cap xs L) (hn : 0 < n) : ∃ b off, a = some ⟨b, off, none⟩ := by
  cases h with
  | nil => omega
  | row g pre xs l post n cap fz hf hx hl => exact ⟨g, _, rfl⟩
theorem VecO.arr {e : TypeId} {a : Option Addr} {n cap : Nat} {xs : List Value} {L : Heap} (h : VecO e a n cap xs L) {w0 w : World} {T T' : List Nat} {H : Heap} {F : Heap → Heap} (hS : St w0 T H w) [hc : Chunk H L F]
    (hT : ∀ b ∈ keys L, b ∉ T') : Arr w T' a xs := by
  cases h with
  | nil => exact Arr.nil _ _ _
  | row g pre xs l post n cap fz hf hx hl =>
    intro j x hj
    have hm := hS.part (L := [(g, Obj.cells ⟨pre ++ (xs ++ (l ++ post))⟩ e fz)]).own _ (List.mem_singleton.2 rfl)
    refine ⟨g, pre.length, rfl, hT g (by simp [keys]), ?_⟩
    have hlt : j < xs.length := (List.getElem?_eq_some_iff.1 hj).1
    simp only [World.cell?, hm]
    simp only [Option.isSome_none, Bool.false_eq_true, if_false]
    rw [show (Array.mk (pre ++ (xs ++ (l ++ post))))[pre.length + j]? = (pre ++ (xs ++ (l ++ post)))[pre.length + j]? by simp, List.getElem?_append_right (by omega), show pre.length + j - pre.length = j by omega, List.getElem?_append_left hlt]
    exact hj
/-- The rest behind k elements. -/
theorem VecO.drop {e : TypeId} {b off n cap k : Nat} {xs : List Value} {L : Heap} (h : VecO e (some ⟨b, off, none⟩) n cap xs L) (hk : k ≤ n) : VecO e (subA b off k cap 1) (n - k) (cap - k) (xs.drop k) L := by
  cases h with
  | row g pre xs l post n cap fz hf hx hl =>
    unfold subA
    split
    · rename_i hc
      have h1 : l = [] := List.eq_nil_of_length_eq_zero (by omega)
      have h2 : xs.drop k = [] := List.drop_eq_nil_iff.2 (by omega)
      have := VecO.row (e := e) b pre [] [] (xs ++ (l ++ post)) 0 0 fz hf rfl rfl
      rw [h2, show n - k = 0 by omega, show cap - k = 0 by omega]
      simpa using this
    · have e2 : pre ++ xs.take k ++ (xs.drop k ++ (l ++ post)) = pre ++ (xs ++ (l ++ post)) := by
        rw [List.append_assoc, ← List.append_assoc (xs.take k), List.take_append_drop]
      have := VecO.row (e := e) b (pre ++ xs.take k) (xs.drop k) l post (n - k) (cap - k) fz (by
        rw [e2]; rcases hf with hf | hf
        · exact .inl (by rw [List.length_append]; omega)
        · exact .inr hf) (by simp; omega) (by simp; omega)
      have e1 : (pre ++ xs.take k).length = pre.length + k * 1 := by simp; omega
      rw [e1, e2] at this
      exact this

section
variable {P : Program} {T0 : Tbl}
theorem St.appO (hT : TOk P T0) {t e ty : TypeId} {i ie : TI} (hi : tf T0 t = some i) (hk : i.k = .slice e 1) (hie : tf T0 e = some ie)
    (hz : ie.zero.cells.size = 1) {w0 w : World} {T : List Nat} {H L : Heap} {F : Heap → Heap} (hS : St w0 T H w) {a : Option Addr} {n cap : Nat} {xs : List Value} (hv : VecO e a n cap xs L) [hc : Chunk H L F]
    {b : Option Addr} {m c : Nat} {news : List Value} (hm : news.length = m) (ha : Arr w [] b news) (h1 : news.all Value.oneCell' = true)
    (hlen : (n + m) * ie.bytes ≤ 140737488355328) (hlen' : n + m ≤ 9223372036854775807) {K : Value → World → Prop}
    (h : ∀ a' cap' L' w', VecO e a' (n + m) cap' (xs ++ news) L' → St w0 T (F L') w' → K (.slice a' (n + m) cap') w') :
    RunG P (Builtin.append_ ⟨[t, t]⟩ ty ⟨[.slice a n cap, .slice b m c]⟩) w K := by
  have ht := und_of hT hi
  rw [hk] at ht
  obtain ⟨ht, hes⟩ := ht
  obtain ⟨inf, hinf, hzz, hs1, hby⟩ := info_of hT hie
  have hsz : inf.size = 1 := by rw [hinf] at hes; simpa using hes
  have hpart : Holds L w := hS.part (L := L)
  have hin := St.enter hpart
  have hsrc : ∀ w', w'.heap = w.heap → (Builtin.firstCells 1 m (.slice b m c)).run P w' = .ok ⟨news⟩ w' := fun w' hw => ha.firstCells (sz := 1) (by omega) hw
  have step : ∀ o, St w0 T (F [(w.heap.size, o)]) (w.drew.alloc o) := fun o =>
    hS.call (L := L) (((hin.drew).alloc o).sub (List.Sublist.cons_cons _ (List.nil_sublist _)))
  cases hv with
  | nil => exact St.app (sz := 1) hT hi hk hie hz hS Vec.nil (by omega) ha h1 hlen hlen' fun a' cap' L' w' h2 h3 => h a' cap' L' w' (VecO.of h2) h3
  | row g pre xs l post n cap fz hf hx hl =>
    have hg : w.heap[g]? = some (.cells ⟨pre ++ (xs ++ (l ++ post))⟩ e fz) := hpart.own _ (List.mem_singleton.2 rfl)
    by_cases hroom : n + m ≤ cap
    · have hst := run_storeCells_fz P g (pre.length + n * 1) e fz news 0 ⟨pre ++ (xs ++ (l ++ post))⟩ w hg (by simp only [List.length_append] at hf; omega) (by simp; omega) (fun v hv => List.all_eq_true.1 h1 v hv)
      simp only [Nat.add_zero] at hst
      have e1 : (pre ++ (xs ++ (l ++ post))).take (pre.length + n * 1) = pre ++ xs := by
        rw [← List.append_assoc, show pre.length + n * 1 = (pre ++ xs).length by simp; omega, List.take_left]
      have e2 : (pre ++ (xs ++ (l ++ post))).drop (pre.length + n * 1 + news.length) = l.drop m ++ post := by
        rw [← List.append_assoc, show pre.length + n * 1 + news.length = (pre ++ xs).length + m by simp; omega, List.drop_append, List.drop_eq_nil_of_le (by omega), List.nil_append,
          show (pre ++ xs).length + m - (pre ++ xs).length = m by omega, List.drop_append_of_le_length (by omega)]
      have e3 : pre ++ xs ++ news ++ (l.drop m ++ post) = pre ++ ((xs ++ news) ++ (l.drop m ++ post)) := by simp
      have hv2 := VecO.row (e := e) g pre (xs ++ news) (l.drop m) post (n + m) cap fz (by simp only [List.length_append, List.length_drop] at hf ⊢; omega) (by simp; omega) (by simp; omega)
      refine RunG.of ?_ (h (some ⟨g, pre.length, none⟩) cap _ (w.setRow g ⟨pre ++ ((xs ++ news) ++ (l.drop m ++ post))⟩) hv2 ?_)
      · simp only [e1, e2] at hst
        rw [← e3]
        simp [Builtin.append_, run_underlying ht, sizeOf, typeInfo, hinf, hsz, Builtin.lenOf, hroom, hsrc w rfl, Addr.add_eq]
        rw [show pre.length + n = pre.length + n * 1 by omega, hst]
        simp
      · exact hS.call (L := [(g, .cells ⟨pre ++ (xs ++ (l ++ post))⟩ e fz)]) (hin.setRow (b := g) (l := pre ++ (xs ++ (l ++ post))) (l' := pre ++ ((xs ++ news) ++ (l.drop m ++ post))))
    · have hge := grownCap_ge w (n + m) cap e
      have h3 : ¬ (9223372036854775807 < ((n : Int) + (m : Int))) := by omega
      have h4 : ¬ (281474976710656 < Builtin.nextslicecap (n + m) cap * inf.bytes) := by
        have := growslice_fits (need := n + m) (old := cap) (bytes := inf.bytes) (by omega) (by rw [hby]; exact hlen)
        omega
      have h5 := hsrc w.drew rfl
      have hfo := run_firstCells_some (P := P) w.drew 1 n ⟨g, pre.length, none⟩ n cap xs (by omega) (fun j v hj => by
        rw [Addr.add_eq]
        have hlt : j < xs.length := (List.getElem?_eq_some_iff.1 hj).1
        have hg' : w.drew.heap[g]? = some (.cells ⟨pre ++ (xs ++ (l ++ post))⟩ e fz) := hg
        simp only [World.cell?, hg', Option.isSome_none, Bool.false_eq_true, if_false]
        rw [show (Array.mk (pre ++ (xs ++ (l ++ post))))[pre.length + j]? = (pre ++ (xs ++ (l ++ post)))[pre.length + j]? by simp, List.getElem?_append_right (by omega), show pre.length + j - pre.length = j by omega, List.getElem?_append_left hlt]
        exact hj)
      have hV := VecO.row (e := e) w.heap.size [] (xs ++ news) (Builtin.zeroCells ie.zero.cells (grownCap w (n + m) cap e - (n + m))).toList [] (n + m) (grownCap w (n + m) cap e) (0, 0) (.inl (Nat.zero_le _)) (by simp; omega) (by rw [zeroCells_len, hz]; simp; omega)
      refine RunG.of ?_ (h _ _ _ _ hV (step _))
      simp [Builtin.append_, run_underlying ht, sizeOf, typeInfo, zeroValue, hinf, hzz, hsz, Builtin.lenOf, hroom, h3, h4, Question.forced, hfo, h5, newRow, grownCap]
      congr 2
      apply Array.ext'
      simp
end
end Go.Eng

/- The document's numbers and texts (tarmacref01). -/
namespace Go.Proofs.YthpmmfapolcaiaaDoor
open Go Go.Eng Go.Proofs

theorem tmodN (a b : Nat) : ((a : Int).tmod (b : Int)) = ((a % b : Nat) : Int) := rfl
theorem tdivN (a b : Nat) : ((a : Int).tdiv (b : Int)) = ((a / b : Nat) : Int) := rfl
theorem numB_len10' (n : Nat) (h : n < 18446744073709551616) : (numB n).length ≤ 10 := numB_len10 n (by omega)
set_option maxHeartbeats 1000000 in
theorem Fold_spec {w : World} (z : Int) (hz : i64ok z) : Cl Tryd.prog f_tarmacref01_Fold [.int .i64 z] w fun v w' => v = u64V (zig z) ∧ St w [] [] w' := by
  have hS := St.start w
  unfold i64ok at hz
  refine en_tarmacref01_Fold rfl ?_
  unfold u64V zig
  by_cases h0 : 0 ≤ z
  · rw [if_pos h0]
    repeat (first | refine SemW.run tblOk ?_ | refine jA (by omega) ?_ | refine jB (by omega) ?_ | refine jC (by omega) ?_ | refine jD (by omega) ?_ | refine jE rfl ?_ | refine jF (by omega) ?_ | (refine jG ?_; first | with_reducible (first | refine jH ?_ | refine jI ?_ | refine jJ ?_ | refine jK ?_ | refine jL ?_) | refine jM (by omega) ?_ | refine jN (by omega) ?_ | with_reducible refine jM rfl ?_ | refine jM (by assumption) ?_ | refine jN (by assumption) ?_ | refine jM (by decide) ?_ | refine jN (by decide) ?_) | refine jF (ptr_ok tblOk rfl rfl) ?_ | refine jO (fun _ => by kernel_rfl) ?_ | refine jF (by decide) ?_)
    exact ⟨congrArg (Value.int .u64) (by omega), hS⟩
  · rw [if_neg h0]
    repeat (first | refine SemW.run tblOk ?_ | refine jA (by omega) ?_ | refine jB (by omega) ?_ | refine jC (by omega) ?_ | refine jD (by omega) ?_ | refine jE rfl ?_ | refine jF (by omega) ?_ | (refine jG ?_; first | with_reducible (first | refine jH ?_ | refine jI ?_ | refine jJ ?_ | refine jK ?_ | refine jL ?_) | refine jM (by omega) ?_ | refine jN (by omega) ?_ | with_reducible refine jM rfl ?_ | refine jM (by assumption) ?_ | refine jN (by assumption) ?_ | refine jM (by decide) ?_ | refine jN (by decide) ?_) | refine jF (ptr_ok tblOk rfl rfl) ?_ | refine jO (fun _ => by kernel_rfl) ?_ | refine jF (by decide) ?_)
    exact ⟨congrArg (Value.int .u64) (by omega), hS⟩
set_option maxHeartbeats 1000000 in
theorem NumE_spec {w : World} (n0 : Nat) (hn0 : n0 < 18446744073709551616) : Cl Tryd.prog f_tarmacref01_Num [u64V n0] w fun v w' => v = Str (numB n0) ∧ St w [] [] w' := by
  have hS := St.start w
  unfold u64V
  refine en_tarmacref01_Num rfl ?_
  have hlen0 := numB_len10' n0 hn0
  repeat (first | refine SemW.run tblOk ?_ | refine jA (by omega) ?_ | refine jB (by omega) ?_ | refine jC (by omega) ?_ | refine jD (by omega) ?_ | refine jE rfl ?_ | refine jF (by omega) ?_ | (refine jG ?_; first | with_reducible (first | refine jH ?_ | refine jI ?_ | refine jJ ?_ | refine jK ?_ | refine jL ?_) | refine jM (by omega) ?_ | refine jN (by omega) ?_ | with_reducible refine jM rfl ?_ | refine jM (by assumption) ?_ | refine jN (by assumption) ?_ | refine jM (by decide) ?_ | refine jN (by decide) ?_) | refine jF (ptr_ok tblOk rfl rfl) ?_ | refine jO (fun _ => by kernel_rfl) ?_ | refine jF (by decide) ?_)
  refine SemW.loop (fun x : Nat × Bytes × Option Addr × Nat => [(0, .int .u64 x.1), (3, .slice x.2.2.1 x.2.1.length x.2.2.2)])
    (fun x w' => x.1 ≤ n0 ∧ numB n0 = x.2.1 ++ numB x.1 ∧ ∃ L, Vec T_uint8 1 x.2.2.1 x.2.1.length x.2.2.2 (x.2.1.map byteV) L ∧ St w [] L w') (fun x => x.1) (n0, [], none, 0)
    ⟨rfl, rfl, trivial⟩ ⟨Nat.le_refl _, rfl, [], Vec.nil, hS⟩ ?_
  rintro ⟨m, pre, a, c⟩ w1 ⟨hm, hpre, L, hv, hS⟩
  simp only at hm hpre hv hS ⊢
  have hpl : pre.length + (numB m).length ≤ 10 := by rw [← List.length_append, ← hpre]; exact hlen0
  have hp1 := numB_pos m
  by_cases h : m < 128
  · rw [numB_lt h] at hpre
    have hb : IntKind.u8.wrap (m : Int) = (((UInt8.ofNat m).toNat : Nat) : Int) := u8wrap m
    have hbm : (((UInt8.ofNat m).toNat : Nat) : Int) = (m : Int) := by rw [← hb, wrapU .u8 rfl]; congr 1; exact Nat.mod_eq_of_lt (by show m < 256; omega)
    repeat (first | refine SemW.run tblOk ?_ | refine jA (by omega) ?_ | refine jB (by omega) ?_ | refine jC (by omega) ?_ | refine jD (by omega) ?_ | refine jE rfl ?_ | refine jF (by omega) ?_ | (refine jG ?_; first | with_reducible (first | refine jH ?_ | refine jI ?_ | refine jJ ?_ | refine jK ?_ | refine jL ?_) | refine jM (by omega) ?_ | refine jN (by omega) ?_ | with_reducible refine jM rfl ?_ | refine jM (by assumption) ?_ | refine jN (by assumption) ?_ | refine jM (by decide) ?_ | refine jN (by decide) ?_) | refine jF (ptr_ok tblOk rfl rfl) ?_ | refine jO (fun _ => by kernel_rfl) ?_ | refine jF (by decide) ?_)
    refine hS.al ?_
    intro r w2 _ hS
    repeat (first | refine SemW.run tblOk ?_ | refine jA (by omega) ?_ | refine jB (by omega) ?_ | refine jC (by omega) ?_ | refine jD (by omega) ?_ | refine jE rfl ?_ | refine jF (by omega) ?_ | (refine jG ?_; first | with_reducible (first | refine jH ?_ | refine jI ?_ | refine jJ ?_ | refine jK ?_ | refine jL ?_) | refine jM (by omega) ?_ | refine jN (by omega) ?_ | with_reducible refine jM rfl ?_ | refine jM (by assumption) ?_ | refine jN (by assumption) ?_ | refine jM (by decide) ?_ | refine jN (by decide) ?_) | refine jF (ptr_ok tblOk rfl rfl) ?_ | refine jO (fun _ => by kernel_rfl) ?_ | refine jF (by decide) ?_)
    refine St.app (sz := 1) (m := 1) tblOk rfl rfl rfl rfl hS hv (news := [UInt8.ofNat m].map byteV) rfl (by
      have := hS.arr (b := r) (T' := []) (by simp)
      have e : ([.int .u8 (m : Int)] : List Value) = [UInt8.ofNat m].map byteV := by simp only [List.map_cons, List.map_nil, byteV, hbm]
      rw [← e]; exact this) rfl (by show (_ + _) * 1 ≤ _; omega) (by omega) ?_
    intro a' c' L' w3 hv' hS
    rw [← List.map_append, ← hpre] at hv'
    have hl : pre.length + 1 = (numB n0).length := by rw [hpre]; simp
    rw [hl] at hv' ⊢
    repeat (first | refine SemW.run tblOk ?_ | refine jA (by omega) ?_ | refine jB (by omega) ?_ | refine jC (by omega) ?_ | refine jD (by omega) ?_ | refine jE rfl ?_ | refine jF (by omega) ?_ | (refine jG ?_; first | with_reducible (first | refine jH ?_ | refine jI ?_ | refine jJ ?_ | refine jK ?_ | refine jL ?_) | refine jM (by omega) ?_ | refine jN (by omega) ?_ | with_reducible refine jM rfl ?_ | refine jM (by assumption) ?_ | refine jN (by assumption) ?_ | refine jM (by decide) ?_ | refine jN (by decide) ?_) | refine jF (ptr_ok tblOk rfl rfl) ?_ | refine jO (fun _ => by kernel_rfl) ?_ | refine jF (by decide) ?_)
    refine toStr (T := []) tblOk rfl rfl rfl rfl rfl rfl (bs := numB n0) rfl (fun w' hw' => by subst hw'; exact hv'.arr hS (by simp)) ?_
    repeat (first | refine SemW.run tblOk ?_ | refine jA (by omega) ?_ | refine jB (by omega) ?_ | refine jC (by omega) ?_ | refine jD (by omega) ?_ | refine jE rfl ?_ | refine jF (by omega) ?_ | (refine jG ?_; first | with_reducible (first | refine jH ?_ | refine jI ?_ | refine jJ ?_ | refine jK ?_ | refine jL ?_) | refine jM (by omega) ?_ | refine jN (by omega) ?_ | with_reducible refine jM rfl ?_ | refine jM (by assumption) ?_ | refine jN (by assumption) ?_ | refine jM (by decide) ?_ | refine jN (by decide) ?_) | refine jF (ptr_ok tblOk rfl rfl) ?_ | refine jO (fun _ => by kernel_rfl) ?_ | refine jF (by decide) ?_)
    exact ⟨rfl, hS.nil⟩
  · rw [numB_ge h] at hpre
    have e1 : ((m : Int).tmod 128) = ((m % 128 : Nat) : Int) := tmodN m 128
    have e2 : ((m : Int).tdiv 128) = ((m / 128 : Nat) : Int) := tdivN m 128
    have hbm : (((UInt8.ofNat (m % 128 + 128)).toNat : Nat) : Int) = ((m % 128 : Nat) : Int) + 128 := by
      have : (UInt8.ofNat (m % 128 + 128)).toNat = m % 128 + 128 := by simp; omega
      rw [this]; omega
    repeat (first | refine SemW.run tblOk ?_ | refine jA (by omega) ?_ | refine jB (by omega) ?_ | refine jC (by omega) ?_ | refine jD (by omega) ?_ | refine jE rfl ?_ | refine jF (by omega) ?_ | (refine jG ?_; first | with_reducible (first | refine jH ?_ | refine jI ?_ | refine jJ ?_ | refine jK ?_ | refine jL ?_) | refine jM (by omega) ?_ | refine jN (by omega) ?_ | with_reducible refine jM rfl ?_ | refine jM (by assumption) ?_ | refine jN (by assumption) ?_ | refine jM (by decide) ?_ | refine jN (by decide) ?_) | refine jF (ptr_ok tblOk rfl rfl) ?_ | refine jO (fun _ => by kernel_rfl) ?_ | refine jF (by decide) ?_)
    rw [e1]
    repeat (first | refine SemW.run tblOk ?_ | refine jA (by omega) ?_ | refine jB (by omega) ?_ | refine jC (by omega) ?_ | refine jD (by omega) ?_ | refine jE rfl ?_ | refine jF (by omega) ?_ | (refine jG ?_; first | with_reducible (first | refine jH ?_ | refine jI ?_ | refine jJ ?_ | refine jK ?_ | refine jL ?_) | refine jM (by omega) ?_ | refine jN (by omega) ?_ | with_reducible refine jM rfl ?_ | refine jM (by assumption) ?_ | refine jN (by assumption) ?_ | refine jM (by decide) ?_ | refine jN (by decide) ?_) | refine jF (ptr_ok tblOk rfl rfl) ?_ | refine jO (fun _ => by kernel_rfl) ?_ | refine jF (by decide) ?_)
    refine hS.al ?_
    intro r w2 _ hS
    repeat (first | refine SemW.run tblOk ?_ | refine jA (by omega) ?_ | refine jB (by omega) ?_ | refine jC (by omega) ?_ | refine jD (by omega) ?_ | refine jE rfl ?_ | refine jF (by omega) ?_ | (refine jG ?_; first | with_reducible (first | refine jH ?_ | refine jI ?_ | refine jJ ?_ | refine jK ?_ | refine jL ?_) | refine jM (by omega) ?_ | refine jN (by omega) ?_ | with_reducible refine jM rfl ?_ | refine jM (by assumption) ?_ | refine jN (by assumption) ?_ | refine jM (by decide) ?_ | refine jN (by decide) ?_) | refine jF (ptr_ok tblOk rfl rfl) ?_ | refine jO (fun _ => by kernel_rfl) ?_ | refine jF (by decide) ?_)
    refine St.app (sz := 1) (m := 1) tblOk rfl rfl rfl rfl hS hv (news := [UInt8.ofNat (m % 128 + 128)].map byteV) rfl (by
      have := hS.arr (b := r) (T' := []) (by simp)
      have e : ([.int .u8 (((m % 128 : Nat) : Int) + 128)] : List Value) = [UInt8.ofNat (m % 128 + 128)].map byteV := by simp only [List.map_cons, List.map_nil, byteV, hbm]
      rw [← e]; exact this) rfl (by show (_ + _) * 1 ≤ _; omega) (by omega) ?_
    intro a' c' L' w3 hv' hS
    have hS := hS.sub (H' := L') (List.sublist_cons_self _ _)
    rw [← List.map_append] at hv'
    have hl : pre.length + 1 = (pre ++ [UInt8.ofNat (m % 128 + 128)]).length := by simp
    rw [hl] at hv' ⊢
    repeat (first | refine SemW.run tblOk ?_ | refine jA (by omega) ?_ | refine jB (by omega) ?_ | refine jC (by omega) ?_ | refine jD (by omega) ?_ | refine jE rfl ?_ | refine jF (by omega) ?_ | (refine jG ?_; first | with_reducible (first | refine jH ?_ | refine jI ?_ | refine jJ ?_ | refine jK ?_ | refine jL ?_) | refine jM (by omega) ?_ | refine jN (by omega) ?_ | with_reducible refine jM rfl ?_ | refine jM (by assumption) ?_ | refine jN (by assumption) ?_ | refine jM (by decide) ?_ | refine jN (by decide) ?_) | refine jF (ptr_ok tblOk rfl rfl) ?_ | refine jO (fun _ => by kernel_rfl) ?_ | refine jF (by decide) ?_)
    rw [e2]
    repeat (first | refine SemW.run tblOk ?_ | refine jA (by omega) ?_ | refine jB (by omega) ?_ | refine jC (by omega) ?_ | refine jD (by omega) ?_ | refine jE rfl ?_ | refine jF (by omega) ?_ | (refine jG ?_; first | with_reducible (first | refine jH ?_ | refine jI ?_ | refine jJ ?_ | refine jK ?_ | refine jL ?_) | refine jM (by omega) ?_ | refine jN (by omega) ?_ | with_reducible refine jM rfl ?_ | refine jM (by assumption) ?_ | refine jN (by assumption) ?_ | refine jM (by decide) ?_ | refine jN (by decide) ?_) | refine jF (ptr_ok tblOk rfl rfl) ?_ | refine jO (fun _ => by kernel_rfl) ?_ | refine jF (by decide) ?_)
    refine ⟨(m / 128, pre ++ [UInt8.ofNat (m % 128 + 128)], a', c'), ⟨rfl, rfl, trivial⟩, ⟨by simp only; omega, by simp only [List.append_assoc]; exact hpre, L', hv', hS⟩, by simp only; omega⟩
theorem IntE_spec {w : World} (z : Int) (hz : i64ok z) : Cl Tryd.prog f_tarmacref01_Int [.int .i64 z] w fun v w' => v = Str (intB z) ∧ St w [] [] w' := by
  have hS := St.start w
  have hzl : zig z < 18446744073709551616 := by
    unfold i64ok at hz; unfold zig; split <;> omega
  refine en_tarmacref01_Int rfl ?_
  repeat (first | refine SemW.run tblOk ?_ | refine jA (by omega) ?_ | refine jB (by omega) ?_ | refine jC (by omega) ?_ | refine jD (by omega) ?_ | refine jE rfl ?_ | refine jF (by omega) ?_ | (refine jG ?_; first | with_reducible (first | refine jH ?_ | refine jI ?_ | refine jJ ?_ | refine jK ?_ | refine jL ?_) | refine jM (by omega) ?_ | refine jN (by omega) ?_ | with_reducible refine jM rfl ?_ | refine jM (by assumption) ?_ | refine jN (by assumption) ?_ | refine jM (by decide) ?_ | refine jN (by decide) ?_) | refine jF (ptr_ok tblOk rfl rfl) ?_ | refine jO (fun _ => by kernel_rfl) ?_ | refine jF (by decide) ?_)
  refine Cl.mono (Fold_spec z hz) ?_
  rintro _ w1 ⟨rfl, hS'⟩
  have hS := hS.call0 hS'
  repeat (first | refine SemW.run tblOk ?_ | refine jA (by omega) ?_ | refine jB (by omega) ?_ | refine jC (by omega) ?_ | refine jD (by omega) ?_ | refine jE rfl ?_ | refine jF (by omega) ?_ | (refine jG ?_; first | with_reducible (first | refine jH ?_ | refine jI ?_ | refine jJ ?_ | refine jK ?_ | refine jL ?_) | refine jM (by omega) ?_ | refine jN (by omega) ?_ | with_reducible refine jM rfl ?_ | refine jM (by assumption) ?_ | refine jN (by assumption) ?_ | refine jM (by decide) ?_ | refine jN (by decide) ?_) | refine jF (ptr_ok tblOk rfl rfl) ?_ | refine jO (fun _ => by kernel_rfl) ?_ | refine jF (by decide) ?_)
  refine Cl.mono (NumE_spec (zig z) hzl) ?_
  rintro _ w2 ⟨rfl, hS'⟩
  have hS := hS.call0 hS'
  repeat (first | refine SemW.run tblOk ?_ | refine jA (by omega) ?_ | refine jB (by omega) ?_ | refine jC (by omega) ?_ | refine jD (by omega) ?_ | refine jE rfl ?_ | refine jF (by omega) ?_ | (refine jG ?_; first | with_reducible (first | refine jH ?_ | refine jI ?_ | refine jJ ?_ | refine jK ?_ | refine jL ?_) | refine jM (by omega) ?_ | refine jN (by omega) ?_ | with_reducible refine jM rfl ?_ | refine jM (by assumption) ?_ | refine jN (by assumption) ?_ | refine jM (by decide) ?_ | refine jN (by decide) ?_) | refine jF (ptr_ok tblOk rfl rfl) ?_ | refine jO (fun _ => by kernel_rfl) ?_ | refine jF (by decide) ?_)
  exact ⟨rfl, hS⟩
end Go.Proofs.YthpmmfapolcaiaaDoor

/- Plain words for the digest of 32 bytes. -/
namespace Go.Proofs.YthpmmfapolcaiaaDoor
open Go Go.Eng

def p32 : Nat := 4294967296
/-- Turned right by n bits. -/
def rotr (n x : Nat) : Nat := x / 2 ^ n + x % 2 ^ n * 2 ^ (32 - n)
theorem rotr_lt (n x : Nat) (h : n ≤ 32) (hx : x < p32) : rotr n x < p32 := by
  unfold rotr
  have hP : 0 < (2 : Nat) ^ n := Nat.pow_pos (by omega)
  have hM : 0 < (2 : Nat) ^ (32 - n) := Nat.pow_pos (by omega)
  have hpm : (2 : Nat) ^ n * 2 ^ (32 - n) = p32 := by rw [← Nat.pow_add, show n + (32 - n) = 32 by omega]; rfl
  generalize (2 : Nat) ^ n = P at *
  generalize (2 : Nat) ^ (32 - n) = M at *
  have hr : x % P < P := Nat.mod_lt _ hP
  have h1 : x / P < M := by
    rw [Nat.div_lt_iff_lt_mul hP, Nat.mul_comm, hpm]; exact hx
  have h2 : (x % P + 1) * M ≤ P * M := Nat.mul_le_mul_right _ hr
  rw [Nat.add_mul, Nat.one_mul, hpm] at h2
  omega
def kList : List Nat := [1116352408, 1899447441, 3049323471, 3921009573, 961987163, 1508970993, 2453635748, 2870763221, 3624381080, 310598401, 607225278, 1426881987, 1925078388, 2162078206, 2614888103, 3248222580, 3835390401, 4022224774, 264347078, 604807628, 770255983, 1249150122, 1555081692, 1996064986, 2554220882, 2821834349, 2952996808, 3210313671, 3336571891, 3584528711, 113926993, 338241895, 666307205, 773529912, 1294757372, 1396182291, 1695183700, 1986661051, 2177026350, 2456956037, 2730485921, 2820302411, 3259730800, 3345764771, 3516065817, 3600352804, 4094571909, 275423344, 430227734, 506948616, 659060556, 883997877, 958139571, 1322822218, 1537002063, 1747873779, 1955562222, 2024104815, 2227730452, 2361852424, 2428436474, 2756734187, 3204031479, 3329325298]
def hList : List Nat := [1779033703, 3144134277, 1013904242, 2773480762, 1359893119, 2600822924, 528734635, 1541459225]
/-- The word at byte 4 i. -/
def wordAt (b : Bytes) (i : Nat) : Nat := ((b.getD (4 * i) 0).toNat * 16777216 + (b.getD (4 * i + 1) 0).toNat * 65536) + (b.getD (4 * i + 2) 0).toNat * 256 + (b.getD (4 * i + 3) 0).toNat
theorem wordAt_lt (b : Bytes) (i : Nat) : wordAt b i < p32 := by
  unfold wordAt p32
  have h0 := (b.getD (4 * i) 0).toNat_lt
  have h1 := (b.getD (4 * i + 1) 0).toNat_lt
  have h2 := (b.getD (4 * i + 2) 0).toNat_lt
  have h3 := (b.getD (4 * i + 3) 0).toNat_lt
  omega
def sg0 (x : Nat) : Nat := rotr 7 x ^^^ rotr 18 x ^^^ x / 8
def sg1 (x : Nat) : Nat := rotr 17 x ^^^ rotr 19 x ^^^ x / 1024
def wNext (w : List Nat) (i : Nat) : Nat := (w.getD (i - 16) 0 + w.getD (i - 7) 0 + sg0 (w.getD (i - 15) 0) + sg1 (w.getD (i - 2) 0)) % p32
/-- The first 16 + n words. -/
def words (b : Bytes) : Nat → List Nat
  | 0 => (List.range 16).map (wordAt b)
  | n + 1 => words b n ++ [wNext (words b n) (16 + n)]
theorem words_len (b : Bytes) : ∀ n, (words b n).length = 16 + n
  | 0 => by simp [words]
  | n + 1 => by simp [words, words_len b n]; omega
theorem words_lt (b : Bytes) : ∀ n, ∀ x ∈ words b n, x < p32
  | 0, x, h => by
    simp only [words, List.mem_map] at h
    obtain ⟨i, -, rfl⟩ := h
    exact wordAt_lt b i
  | n + 1, x, h => by
    simp only [words, List.mem_append, List.mem_singleton] at h
    rcases h with h | rfl
    · exact words_lt b n x h
    · exact Nat.mod_lt _ (by decide)
def nt (x : Nat) : Nat := p32 - 1 - x
def bs0 (a : Nat) : Nat := rotr 2 a ^^^ rotr 13 a ^^^ rotr 22 a
def bs1 (e : Nat) : Nat := rotr 6 e ^^^ rotr 11 e ^^^ rotr 25 e
def t1M (v : List Nat) (k w : Nat) : Nat := (v.getD 7 0 + bs1 (v.getD 4 0) + ((v.getD 4 0 &&& v.getD 5 0) ^^^ (nt (v.getD 4 0) &&& v.getD 6 0)) + k + w) % p32
def t2M (v : List Nat) : Nat := (bs0 (v.getD 0 0) + ((v.getD 0 0 &&& v.getD 1 0) ^^^ (v.getD 0 0 &&& v.getD 2 0) ^^^ (v.getD 1 0 &&& v.getD 2 0))) % p32
def roundM (v : List Nat) (k w : Nat) : List Nat :=
  [(t1M v k w + t2M v) % p32, v.getD 0 0, v.getD 1 0, v.getD 2 0, (v.getD 3 0 + t1M v k w) % p32, v.getD 4 0, v.getD 5 0, v.getD 6 0]
def rounds (v w : List Nat) : Nat → List Nat
  | 0 => v
  | n + 1 => roundM (rounds v w n) (kList.getD n 0) (w.getD n 0)
def addM (h v : List Nat) : List Nat := (List.range 8).map fun i => (h.getD i 0 + v.getD i 0) % p32
def stepM (h : List Nat) (b : Bytes) : List Nat := addM h (rounds h (words b 48) 64)
/-- H behind n times 64 bytes of the text. -/
def hashN (t : Bytes) : Nat → List Nat
  | 0 => hList
  | n + 1 => stepM (hashN t n) ((t.drop (64 * n)).take 64)
theorem hashN_len (t : Bytes) : ∀ n, (hashN t n).length = 8
  | 0 => rfl
  | n + 1 => by simp [hashN, stepM, addM]
theorem hashN_lt (t : Bytes) : ∀ n, ∀ x ∈ hashN t n, x < p32
  | 0, x, h => by
    have : hList.all (fun x => decide (x < p32)) = true := by decide
    exact of_decide_eq_true (List.all_eq_true.1 this x h)
  | n + 1, x, h => by
    simp only [hashN, stepM, addM, List.mem_map] at h
    obtain ⟨i, -, rfl⟩ := h
    exact Nat.mod_lt _ (by decide)
theorem hashN_app (t u : Bytes) : ∀ n, 64 * n ≤ t.length → hashN (t ++ u) n = hashN t n
  | 0, _ => rfl
  | n + 1, h => by
    simp only [hashN]
    rw [hashN_app t u n (by omega)]
    congr 1
    rw [List.drop_append_of_le_length (by omega), List.take_append_of_le_length (by rw [List.length_drop]; omega)]
def be8 (n : Nat) : Bytes := [UInt8.ofNat (n / 2 ^ 56), UInt8.ofNat (n / 2 ^ 48), UInt8.ofNat (n / 2 ^ 40), UInt8.ofNat (n / 2 ^ 32), UInt8.ofNat (n / 2 ^ 24), UInt8.ofNat (n / 2 ^ 16), UInt8.ofNat (n / 2 ^ 8), UInt8.ofNat n]
def zerosFor (n : Nat) : Nat := (119 - n % 64) % 64
def filled (t : Bytes) : Bytes := t ++ ([128] ++ List.replicate (zerosFor t.length) 0) ++ be8 (8 * t.length)
theorem filled_len (t : Bytes) : (filled t).length % 64 = 0 := by
  simp [filled, be8, zerosFor]; omega
def be4w (x : Nat) : Bytes := [UInt8.ofNat (x / 2 ^ 24), UInt8.ofNat (x / 2 ^ 16), UInt8.ofNat (x / 2 ^ 8), UInt8.ofNat x]
/-- The digest. -/
def shaB (t : Bytes) : Bytes := ((hashN (filled t) ((filled t).length / 64)).map be4w).flatten
theorem shaB_len (t : Bytes) : (shaB t).length = 32 := by
  have h := hashN_len (filled t) ((filled t).length / 64)
  have key : ∀ l : List Nat, ((l.map be4w).flatten).length = 4 * l.length := by
    intro l
    induction l with
    | nil => rfl
    | cons x r ih => simp only [List.map_cons, List.flatten_cons, List.length_append, ih, be4w, List.length_cons, List.length_nil]; omega
  unfold shaB
  rw [key, h]
def key64 (key : Bytes) : Bytes := (if 64 < key.length then shaB key else key) ++ List.replicate (64 - (if 64 < key.length then shaB key else key).length) 0
def macB (key text : Bytes) : Bytes := shaB ((key64 key).map (fun c => c ^^^ 0x5c) ++ shaB ((key64 key).map (fun c => c ^^^ 0x36) ++ text))
theorem macB_len (key text : Bytes) : (macB key text).length = 32 := shaB_len _
end Go.Proofs.YthpmmfapolcaiaaDoor

/- Plain laws of keys: letters and numbers, in order. -/
namespace Go.Proofs.YthpmmfapolcaiaaDoor
open Go Go.Eng

/-- k bytes of a number, the greatest first. -/
def beN : Nat → Nat → Bytes
  | 0, _ => []
  | k + 1, n => UInt8.ofNat (n / 256 ^ k) :: beN k n
theorem be8_eq (n : Nat) : be8 n = beN 8 n := by simp [be8, beN]
theorem beN_len : ∀ k n, (beN k n).length = k
  | 0, _ => rfl
  | k + 1, n => by simp [beN, beN_len k n]
theorem less_cons (x y : UInt8) (xs ys : Bytes) : Op.bytesLess (x :: xs) (y :: ys) = (decide (x.toNat < y.toNat) || (decide (x.toNat = y.toNat) && Op.bytesLess xs ys)) := by
  show (decide (x < y) || (x == y && Op.bytesLess xs ys)) = _
  have e1 : decide (x < y) = decide (x.toNat < y.toNat) := by
    rw [decide_eq_decide]; exact UInt8.lt_iff_toNat_lt
  have e2 : (x == y) = decide (x.toNat = y.toNat) := by
    rw [Bool.eq_iff_iff, beq_iff_eq, decide_eq_true_eq]
    exact ⟨fun h => by rw [h], fun h => UInt8.toNat_inj.1 h⟩
  rw [e1, e2]
theorem beN_less : ∀ k a b, Op.bytesLess (beN k a) (beN k b) = decide (a % 256 ^ k < b % 256 ^ k)
  | 0, a, b => by simp [beN, Op.bytesLess, Nat.mod_one]
  | k + 1, a, b => by
    have hP : 0 < 256 ^ k := Nat.pow_pos (by omega)
    rw [beN, beN, less_cons, beN_less k a b]
    have e1 : ∀ n, (UInt8.ofNat (n / 256 ^ k)).toNat = n / 256 ^ k % 256 := fun n => by simp
    have e2 : ∀ n, n % 256 ^ (k + 1) = n % 256 ^ k + 256 ^ k * (n / 256 ^ k % 256) := fun n => by rw [Nat.pow_succ, Nat.mod_mul]
    rw [e1, e1, e2, e2]
    have ha : a % 256 ^ k < 256 ^ k := Nat.mod_lt _ hP
    have hb : b % 256 ^ k < 256 ^ k := Nat.mod_lt _ hP
    generalize 256 ^ k = P at *
    generalize a / P % 256 = x
    generalize b / P % 256 = y
    generalize a % P = r at *
    generalize b % P = s at *
    rw [Bool.eq_iff_iff]
    simp only [Bool.or_eq_true, Bool.and_eq_true, decide_eq_true_eq]
    rcases Nat.lt_trichotomy x y with h | h | h
    · have : P * x + P ≤ P * y := by rw [← Nat.mul_succ]; exact Nat.mul_le_mul_left P h
      constructor
      · intro _; omega
      · intro _; exact .inl h
    · subst h
      constructor
      · rintro (h | ⟨-, h⟩)
        · omega
        · omega
      · intro h; exact .inr ⟨rfl, by omega⟩
    · have : P * y + P ≤ P * x := by rw [← Nat.mul_succ]; exact Nat.mul_le_mul_left P h
      constructor
      · rintro (h' | ⟨h', -⟩) <;> omega
      · intro _; omega
theorem less_pre : ∀ (p x y : Bytes), Op.bytesLess (p ++ x) (p ++ y) = Op.bytesLess x y
  | [], _, _ => rfl
  | c :: p, x, y => by
    rw [List.cons_append, List.cons_append, less_cons, less_pre p x y]; simp
def unum (n : Int) : Nat := (n + 9223372036854775808).toNat
/-- The key of a letter and a number; where the states' records end. -/
def keyB (c : UInt8) (n : Int) : Bytes := [2, c, 0, 0, 1] ++ be8 (unum n)
def endB : Bytes := [2, 114, 0, 0]
theorem keyB_len (c : UInt8) (n : Int) : (keyB c n).length = 13 := by simp [keyB, be8]
theorem key_less (c : UInt8) {n m : Int} (hn : -9223372036854775808 ≤ n ∧ n ≤ 9223372036854775807) (hm : -9223372036854775808 ≤ m ∧ m ≤ 9223372036854775807) : Op.bytesLess (keyB c n) (keyB c m) = decide (n < m) := by
  unfold keyB
  rw [less_pre, be8_eq, be8_eq, beN_less, decide_eq_decide]
  have h1 : unum n < 256 ^ 8 := by show unum n < 18446744073709551616; unfold unum; omega
  have h2 : unum m < 256 ^ 8 := by show unum m < 18446744073709551616; unfold unum; omega
  rw [Nat.mod_eq_of_lt h1, Nat.mod_eq_of_lt h2]
  unfold unum; omega
theorem key_letters {c d : UInt8} (h : c.toNat < d.toNat) (n m : Int) : Op.bytesLess (keyB c n) (keyB d m) = true := by
  unfold keyB
  show Op.bytesLess (2 :: c :: ([0, 0, 1] ++ be8 (unum n))) (2 :: d :: ([0, 0, 1] ++ be8 (unum m))) = true
  rw [less_cons, less_cons]
  simp [h]
theorem key_end {c : UInt8} (h : c.toNat < 114) (n : Int) : Op.bytesLess (keyB c n) endB = true := by
  unfold keyB endB
  show Op.bytesLess (2 :: c :: ([0, 0, 1] ++ be8 (unum n))) (2 :: 114 :: [0, 0]) = true
  rw [less_cons, less_cons]
  have : (114 : UInt8).toNat = 114 := rfl
  simp [this, h]
theorem reply_end (n : Int) : Op.bytesLess (keyB 114 n) endB = false := by
  unfold keyB endB
  show Op.bytesLess (2 :: 114 :: 0 :: 0 :: 1 :: be8 (unum n)) (2 :: 114 :: 0 :: 0 :: []) = false
  rw [less_cons, less_cons, less_cons, less_cons]
  rfl
theorem beN_inj : ∀ (k a b : Nat), a < 256 ^ k → b < 256 ^ k → beN k a = beN k b → a = b := by
  intro k a b ha hb h
  have h1 := beN_less k a b
  have h2 := beN_less k b a
  rw [h] at h1
  rw [h, ← h] at h2
  rw [Nat.mod_eq_of_lt ha, Nat.mod_eq_of_lt hb] at h1 h2
  have h3 : Op.bytesLess (beN k b) (beN k b) = false := by rw [beN_less]; simp
  rw [h3] at h1
  rw [h, h3] at h2
  have := of_decide_eq_false h1.symm
  have := of_decide_eq_false h2.symm
  omega
theorem keyB_inj {c : UInt8} {n m : Int} (hn : -9223372036854775808 ≤ n ∧ n ≤ 9223372036854775807) (hm : -9223372036854775808 ≤ m ∧ m ≤ 9223372036854775807) (h : keyB c n = keyB c m) : n = m := by
  have h1 := List.append_cancel_left h
  rw [be8_eq, be8_eq] at h1
  have := beN_inj 8 (unum n) (unum m) (by show unum n < 18446744073709551616; unfold unum; omega) (by show unum m < 18446744073709551616; unfold unum; omega) h1
  unfold unum at this; omega
end Go.Proofs.YthpmmfapolcaiaaDoor

/- Plain laws of seats' texts. -/
namespace Go.Proofs.YthpmmfapolcaiaaDoor
open Go Go.Eng

/-- The digits of a number below 100. -/
def digB (n : Nat) : Bytes := if n < 10 then [UInt8.ofNat (48 + n)] else [UInt8.ofNat (48 + n / 10), UInt8.ofNat (48 + n % 10)]
def seatOk (num : Int) (c : Nat) : Bool := decide (1 ≤ num) && decide (num ≤ 99) && decide (65 ≤ c) && decide (c ≤ 90)
def labelB (num : Int) (c : Nat) : Bytes := if seatOk num c then digB num.toNat ++ [UInt8.ofNat c] else [45]
theorem seatOk_iff {num : Int} {c : Nat} : seatOk num c = true ↔ 1 ≤ num ∧ num ≤ 99 ∧ 65 ≤ c ∧ c ≤ 90 := by
  simp [seatOk, and_assoc]
theorem labelB_len (num : Int) (c : Nat) : 1 ≤ (labelB num c).length ∧ (labelB num c).length ≤ 3 := by
  unfold labelB digB; split
  · split <;> simp
  · simp
theorem labelB_dash (num : Int) (c : Nat) : labelB num c = [45] ↔ seatOk num c = false := by
  unfold labelB
  cases h : seatOk num c with
  | false => simp
  | true =>
    simp only [if_true]
    unfold digB; split <;> simp
theorem digB_inj {a b : Nat} (ha : a < 100) (hb : b < 100) (h : digB a = digB b) : a = b := by
  unfold digB at h
  split at h <;> split at h
  · have := u8_inj (by omega) (by omega) (List.cons.inj h).1; omega
  · simp at h
  · simp at h
  · have h1 := u8_inj (by omega) (by omega) (List.cons.inj h).1
    have h2 := u8_inj (by omega) (by omega) (List.cons.inj (List.cons.inj h).2).1
    omega
theorem labelB_inj {a b : Int} {c d : Nat} (h1 : seatOk a c = true) (h2 : seatOk b d = true) (h : labelB a c = labelB b d) : a = b ∧ c = d := by
  unfold labelB at h
  rw [if_pos h1, if_pos h2] at h
  obtain ⟨a1, a2, a3, a4⟩ := seatOk_iff.1 h1
  obtain ⟨b1, b2, b3, b4⟩ := seatOk_iff.1 h2
  obtain ⟨e1, e2⟩ := List.append_inj' h rfl
  have e3 := u8_inj (by omega) (by omega) (List.cons.inj e2).1
  have e4 := digB_inj (by omega) (by omega) e1
  exact ⟨by omega, e3⟩
end Go.Proofs.YthpmmfapolcaiaaDoor

/- From a contract (Cl) to the statement: arguments opened, post shut. -/
namespace Go.Proofs.YthpmmfapolcaiaaDoor
open Go Go.Eng Go.Proofs
open Go.ChangeShapes Go.WideShapes Go.ChangeAt Go.RowKit

theorem ownTry : ownKnob Tryd.prog.godebug = none := by kernel_rfl
theorem laidTry : laidOutB Tryd.prog = true := by kernel_rfl
theorem calls_of_cl {P : Program} {f : FuncId} {args : List Value} {w : World} {R : Value → World → Prop} (hc : ∀ (args : Array Value) (w : World), (callFunc f args).run P w = .ok (.enter f args) w)
    (h : Cl P f args w R) : Calls P f ⟨args⟩ w fun e w' => ∃ v, e = .returned v ∧ R v w' := by
  rcases h with ⟨_, h⟩ | ⟨v, w', h, _⟩
  · exact h
  · rw [hc] at h; cases h
theorem St.below {w w' : World} (h : St w [] [] w') : Below w.heap.size w w' := ⟨h.os, h.tape, h.output, h.size, fun k hk => h.old k hk (by simp)⟩
theorem trodAll_below {H : Type} {enc : TypeId × Value → H} {P : Program} (hl : laidOutB P = true) {W W' : World} (hb : Below W.heap.size W W') : ∀ {ts : List TypeId} {vs : List Value} {ds : List (DataW H)} {ps : List MemPlace},
    (ts.all fun t => P.readableRec t && decide (t < P.types.size)) = true → (∀ x ∈ ps, x.block < W.heap.size) → DataW.TrodAll enc P W 0 (fun _ => true) true ts vs ds ps →
    DataW.TrodAll enc P W' 0 (fun b => decide (b < W.heap.size)) true ts vs ds ps
  | [], [], [], _, _, _, h => h
  | t :: ts, v :: vs, d :: ds, ps, ht, hlt, ⟨p, q, h1, h2, e⟩ => by
    subst e
    simp only [List.all_cons, Bool.and_eq_true, decide_eq_true_eq] at ht
    exact ⟨p, q, Below.trod hl ht.1.1 ht.1.2 h1 hb (fun x hx => hlt x (by simp [hx])), trodAll_below hl hb (by simpa using ht.2) (fun x hx => hlt x (by simp [hx])) h2, rfl⟩
  | [], [], _ :: _, _, _, _, h => h.elim
  | [], _ :: _, _, _, _, _, h => h.elim
  | _ :: _, [], _, _, _, _, h => h.elim
  | _ :: _, _ :: _, [], _, _, _, h => h.elim

theorem post_true {H : Type} {enc : TypeId × Value → H} {P : Program} {f : Func} {s : ChangeSpec} {W W' : World} {args : Array Value} {ds gs : List (DataW H)} {before : List MemPlace} (hl : laidOutB P = true)
    (hts : (f.params.toList.all fun t => P.readableRec t && decide (t < P.types.size)) = true) {tb : TypeId} (hrt : f.resultTypes = #[tb]) (hb : P.underlying tb = some .bool)
    (hW : DataW.Whole enc P f.params.toList s.vars false W args.toList ds gs before) (hv : s.vars = []) (hfn : gs = [] → s.fn H (ds ++ gs) = { results := [.lit (.bool true)], args := ds }) (hst : St W [] [] W') :
    s.post enc P f false true false false W args (.bool true) W' := by
  have hW' := hW
  obtain ⟨p, q, hA, hV, rfl, _, _⟩ := hW
  rw [hv] at hV
  obtain ⟨rfl, rfl⟩ := trodVars_none hV
  have hlt : ∀ x ∈ p, x.block < W.heap.size := fun x hx => by have := hW'.lt x (by simp [hx]); simpa using this
  refine ⟨ds, [], _, [], p, [], hW', ?_, ?_, ?_, (St.below hst).frame _, fun h => by cases h⟩
  · rw [hfn rfl, hrt]
    exact trodAll_mk1 (shut_bool hb _)
  · rw [hfn rfl]
    exact trodAll_below hl (St.below hst) hts hlt hA
  · rw [hfn rfl, hv]
    rfl

theorem Str_of (s : ByteArray) : Value.string s = Str s.data.toList := by
  cases s; rfl
theorem bulk_strs {H : Type} : ∀ ss : List ByteArray, Rows.uptoBulkAll (strs (H := H) ss) = sumLen (ss.map (·.data.toList)) + ss.length
  | [] => rfl
  | s :: r => by
    have ih := bulk_strs (H := H) r
    simp only [strs, sumLen, List.map_cons, List.sum_cons, List.length_cons, Rows.uptoBulkAll, Rows.uptoBulk] at ih ⊢
    omega
theorem open_strsA {H : Type} {enc : TypeId × Value → H} {P : Program} {W : World} {r : Reach} {b0 : Nat} {t e : TypeId} {v : Value} {d : DataW H} {p : List MemPlace} (ht : P.underlying t = some (.slice e)) (he : P.underlying e = some .string) (hc : P.cellsOf e = 1)
    (hval : Value.okWide P W r b0 t v) (hd : DataW.Trod enc P W 0 (fun _ => true) true t v d p) :
    ∃ (a : Option Addr) (cap : Nat) (ps : List Bytes), v = .slice a ps.length cap ∧ ps.length ≤ cap ∧ cap ≤ maxLen ∧ Arr W [] a (ps.map Str) ∧ sumLen ps + cap + 1 ≤ Rows.uptoBulk d ∧ (∀ x ∈ ps, x.length ≤ maxLen) := by
  obtain ⟨a0, len, cap, rfl⟩ := okWide_slice ht hval
  obtain ⟨fuel, hf⟩ := hd
  rcases open_strings ht he hc hf with ⟨hcs, hx⟩ | ⟨a, len', cap', ss, hcs, _, hl, hm, hz, hx, hcell, hsz⟩
  · simp [Value.cells] at hcs
    obtain ⟨rfl, rfl, rfl⟩ := hcs
    simp only [Prod.mk.injEq] at hx
    obtain ⟨rfl, rfl⟩ := hx
    exact ⟨none, 0, [], rfl, Nat.le_refl _, by decide, Arr.nil _ _ _, by simp [sumLen, Rows.uptoBulk], by simp⟩
  · simp [Value.cells] at hcs
    obtain ⟨rfl, rfl, rfl⟩ := hcs
    simp only [Prod.mk.injEq] at hx
    obtain ⟨rfl, rfl⟩ := hx
    simp only [if_true] at hz
    have hlen : ((ss.take len).map (·.data.toList)).length = len := by simp; omega
    refine ⟨some a, cap, (ss.take len).map (·.data.toList), by rw [hlen], by rw [hlen]; exact hl, hm, ?_, ?_, ?_⟩
    · intro j x hj
      have hjl : j < len := by
        have := (List.getElem?_eq_some_iff.1 hj).1
        simp at this; omega
      have hcj := hcell j (by omega)
      obtain ⟨b, off, spot⟩ := a
      have hspot : spot = none := by simpa [Addr.add] using World.cell?_spot (hcell 0 (by omega))
      subst hspot
      refine ⟨b, off, rfl, by simp, ?_⟩
      rw [add_plain] at hcj
      rw [hcj]
      have : x = Str (ss.getD j ByteArray.empty).data.toList := by
        have hjs : j < ss.length := by omega
        simp [hjl, hjs] at hj
        simp [List.getD_eq_getElem?_getD, hjs, ← hj]
      rw [this, Str_of]
    · have e1 := bulk_strs (H := H) (ss.take len)
      have e2 := bulk_strs (H := H) (ss.drop len)
      simp only [Rows.uptoBulk, e1, e2, List.length_take, List.length_drop]
      omega
    · intro x hx
      obtain ⟨s, hs, rfl⟩ := List.mem_map.1 hx
      rw [Array.length_toList]
      exact hsz s (List.mem_of_mem_take hs)
theorem open_intsA {H : Type} {enc : TypeId × Value → H} {P : Program} {W : World} {r : Reach} {b0 : Nat} {t e : TypeId} {v : Value} {d : DataW H} {p : List MemPlace} (ht : P.underlying t = some (.slice e)) (he : P.underlying e = some (.int .i64)) (hc : P.cellsOf e = 1)
    (hval : Value.okWide P W r b0 t v) (hd : DataW.Trod enc P W 0 (fun _ => true) true t v d p) :
    ∃ (a : Option Addr) (cap : Nat) (zs : List Int), v = .slice a zs.length cap ∧ zs.length ≤ cap ∧ cap ≤ maxLen ∧ Arr W [] a (zs.map intV) ∧ cap + 1 ≤ Rows.uptoBulk d ∧ (∀ x ∈ zs, -9223372036854775808 ≤ x ∧ x ≤ 9223372036854775807) := by
  obtain ⟨a0, len, cap, rfl⟩ := okWide_slice ht hval
  obtain ⟨fuel, hf⟩ := hd
  rcases open_ints ht he hc hf with ⟨hcs, hx⟩ | ⟨a, len', cap', ss, hcs, _, hl, hm, hz, hx, hcell, hsz⟩
  · simp [Value.cells] at hcs
    obtain ⟨rfl, rfl, rfl⟩ := hcs
    simp only [Prod.mk.injEq] at hx
    obtain ⟨rfl, rfl⟩ := hx
    exact ⟨none, 0, [], rfl, Nat.le_refl _, by decide, Arr.nil _ _ _, by simp [Rows.uptoBulk], by simp⟩
  · simp [Value.cells] at hcs
    obtain ⟨rfl, rfl, rfl⟩ := hcs
    simp only [Prod.mk.injEq] at hx
    obtain ⟨rfl, rfl⟩ := hx
    simp only [if_true] at hz
    have hlen : (ss.take len).length = len := by simp; omega
    refine ⟨some a, cap, ss.take len, by rw [hlen], by rw [hlen]; exact hl, hm, ?_, ?_, ?_⟩
    · intro j x hj
      have hjl : j < len := by
        have := (List.getElem?_eq_some_iff.1 hj).1
        simp at this; omega
      have hcj := hcell j (by omega)
      obtain ⟨b, off, spot⟩ := a
      have hspot : spot = none := by simpa [Addr.add] using World.cell?_spot (hcell 0 (by omega))
      subst hspot
      refine ⟨b, off, rfl, by simp, ?_⟩
      rw [add_plain] at hcj
      rw [hcj]
      have : x = intV (ss.getD j 0) := by
        have hjs : j < ss.length := by omega
        simp [hjl, hjs] at hj
        simp [List.getD_eq_getElem?_getD, hjs, ← hj]
      rw [this]; rfl
    · have e1 : ∀ l : List Int, Rows.uptoBulkAll (lits (H := H) .i64 l) = l.length := by
        intro l
        induction l with
        | nil => rfl
        | cons x r ih => simp only [lits, List.map_cons, Rows.uptoBulkAll, Rows.uptoBulk, List.length_cons] at ih ⊢; omega
      simp only [Rows.uptoBulk, e1, List.length_take, List.length_drop]
      omega
    · intro x hx
      have := hsz x (List.mem_of_mem_take hx)
      simpa [Lit.wf, IntKind.min, IntKind.max, IntKind.signed, IntKind.bits] using this
theorem bulk1 {H : Type} {d1 : DataW H} (h : Rows.uptoSmall H [d1] = true) : Rows.uptoBulk d1 ≤ 1048576 := by
  have h : Rows.uptoBulkAll [d1] ≤ 1048576 := of_decide_eq_true h
  simp only [Rows.uptoBulkAll] at h; omega
theorem bulk2 {H : Type} {d1 d2 : DataW H} (h : Rows.uptoSmall H [d1, d2] = true) : Rows.uptoBulk d1 + Rows.uptoBulk d2 ≤ 1048576 := by
  have h : Rows.uptoBulkAll [d1, d2] ≤ 1048576 := of_decide_eq_true h
  simp only [Rows.uptoBulkAll] at h; omega
theorem bulk3 {H : Type} {d1 d2 d3 : DataW H} (h : Rows.uptoSmall H [d1, d2, d3] = true) : Rows.uptoBulk d1 + Rows.uptoBulk d2 + Rows.uptoBulk d3 ≤ 1048576 := by
  have h : Rows.uptoBulkAll [d1, d2, d3] ≤ 1048576 := of_decide_eq_true h
  simp only [Rows.uptoBulkAll] at h; omega
end Go.Proofs.YthpmmfapolcaiaaDoor

/- Arguments of any shape, opened: what their cells say, and how much they are. -/
namespace Go.Proofs.YthpmmfapolcaiaaDoor
open Go Go.Eng Go.Proofs
open Go.ChangeShapes Go.WideShapes Go.ChangeAt Go.RowKit

/-- What the cells of a type are, as read of a world. -/
abbrev CellR (β : Type) := World → List Value → β → Prop
structure Opens (P : Program) (t : TypeId) {β : Type} (R : CellR β) (bulk : β → Nat) : Prop where
  out : ∀ {H : Type} {enc : TypeId × Value → H} {W : World} {fuel : Nat} {cs : List Value} {x : DataW H × List MemPlace}, DataW.trod enc P W 0 (fun _ => true) true fuel t cs = some x → ∃ b, R W cs b ∧ bulk b ≤ Rows.uptoBulk x.1

def RStr : CellR Bytes := fun _ cs s => cs = [Str s] ∧ s.length ≤ maxLen
def RInt (k : IntKind) : CellR Int := fun _ cs n => cs = [.int k n] ∧ (Lit.int k n).wf = true
def RBool : CellR Bool := fun _ cs b => cs = [.bool b]
structure RSl {β : Type} (sz : Nat) (R : CellR β) (W : World) (cs : List Value) (xs : List β) : Prop where
  ex : ∃ (a : Option Addr) (cap : Nat), cs = [.slice a xs.length cap] ∧ xs.length ≤ cap ∧ cap ≤ maxLen ∧
    ∀ j (h : j < xs.length), ∃ b off cs', a = some ⟨b, off, none⟩ ∧ cs'.length = sz ∧ (∀ i v, cs'[i]? = some v → W.cell? ⟨b, off + (j * sz + i), none⟩ = some v) ∧ R W cs' xs[j]
def RPair {α β : Type} (n : Nat) (R : CellR α) (S : CellR β) : CellR (α × β) := fun W cs x => R W (cs.take n) x.1 ∧ S W (cs.drop n) x.2

theorem Opens.str {P : Program} {t : TypeId} (ht : P.underlying t = some .string) : Opens P t RStr (fun s => s.length + 1) := by
  refine ⟨fun {H enc W fuel cs x} h => ?_⟩
  obtain ⟨s, rfl, rfl, hs⟩ := DataW.trod_string ht h
  exact ⟨s.data.toList, ⟨by rw [Str_of], by rw [Array.length_toList]; exact hs⟩, Nat.le_refl _⟩
theorem Opens.int {P : Program} {t : TypeId} {k : IntKind} (ht : P.underlying t = some (.int k)) : Opens P t (RInt k) (fun _ => 1) := by
  refine ⟨fun {H enc W fuel cs x} h => ?_⟩
  obtain ⟨n, rfl, rfl, hs⟩ := DataW.trod_int ht h
  exact ⟨n, ⟨rfl, hs⟩, Nat.le_refl _⟩
theorem Opens.bool {P : Program} {t : TypeId} (ht : P.underlying t = some .bool) : Opens P t RBool (fun _ => 1) := by
  refine ⟨fun {H enc W fuel cs x} h => ?_⟩
  obtain ⟨n, rfl, rfl⟩ := DataW.trod_bool ht h
  exact ⟨n, rfl, Nat.le_refl _⟩
theorem bulk_range {H : Type} {β : Type} (bulk : β → Nat) : ∀ (xs : List β) (D : Nat → DataW H), (∀ j (h : j < xs.length), bulk xs[j] ≤ Rows.uptoBulk (D j)) → (xs.map bulk).sum ≤ Rows.uptoBulkAll ((List.range xs.length).map D)
  | [], _, _ => by simp
  | x :: r, D, h => by
    have ih := bulk_range bulk r (fun j => D (j + 1)) (fun j hj => h (j + 1) (by simpa using hj))
    have h0 := h 0 (by simp)
    rw [List.length_cons, List.range_succ_eq_map, List.map_cons, List.map_cons, List.map_map, List.sum_cons]
    simp only [Rows.uptoBulkAll]
    have : Function.comp D Nat.succ = fun j => D (j + 1) := rfl
    rw [this]
    simp only [List.getElem_cons_zero] at h0
    omega
theorem Opens.slice {P : Program} {t e : TypeId} {β : Type} {R : CellR β} {bulk : β → Nat} (ht : P.underlying t = some (.slice e)) {sz : Nat} (hc : P.cellsOf e = sz) (h0 : 0 < sz) (he : Opens P e R bulk) :
    Opens P t (RSl sz R) (fun xs => (xs.map bulk).sum + 1) := by
  refine ⟨fun {H enc W fuel cs x} h => ?_⟩
  rcases Go.Deep.open_slice ht h with ⟨rfl, rfl⟩ | ⟨a, len, cap, m, n, D, Pl, rfl, -, hl, hm, hmm, rfl, hx⟩
  · exact ⟨[], ⟨none, 0, rfl, Nat.le_refl _, by decide, fun j h => by simp at h⟩, by simp [Rows.uptoBulk]⟩
  rw [if_pos rfl] at hmm
  subst hmm
  rw [hc] at hx
  have hall : ∀ i, i < len → ∃ b : β, (∃ cs', W.cells? 0 (a.add (i * sz)) sz = some cs' ∧ R W cs' b) ∧ bulk b ≤ Rows.uptoBulk (D i) := by
    intro i hi
    obtain ⟨cs', h1, h2⟩ := hx i (by omega)
    obtain ⟨b, h3, h4⟩ := he.out h2
    exact ⟨b, ⟨cs', h1, h3⟩, h4⟩
  have hxs : ∃ xs : List β, xs.length = len ∧ ∀ i (hi : i < xs.length), (∃ cs', W.cells? 0 (a.add (i * sz)) sz = some cs' ∧ R W cs' xs[i]) ∧ bulk xs[i] ≤ Rows.uptoBulk (D i) := by
    clear h hx hl hm
    induction len with
    | zero => exact ⟨[], rfl, fun i hi => by simp at hi⟩
    | succ k ih =>
      obtain ⟨xs, hxl, hxs⟩ := ih (fun i hi => hall i (by omega))
      obtain ⟨b, hb⟩ := hall k (by omega)
      refine ⟨xs ++ [b], by simp [hxl], fun i hi => ?_⟩
      by_cases hik : i < xs.length
      · rw [List.getElem_append_left hik]; exact hxs i hik
      · have : i = k := by simp at hi; omega
        subst this
        rw [List.getElem_append_right (by omega)]
        simpa [hxl] using hb
  obtain ⟨xs, rfl, hxs⟩ := hxs
  refine ⟨xs, ⟨some a, _, rfl, hl, hm, fun j hj => ?_⟩, ?_⟩
  · obtain ⟨⟨cs', h1, h2⟩, -⟩ := hxs j hj
    obtain ⟨_, h3, h4⟩ := World.cells?_some h1
    obtain ⟨b, off, spot⟩ := a
    have hcell : ∀ i v, cs'[i]? = some v → W.cell? ((Addr.mk b off spot).add (j * sz + i)) = some v := by
      intro i v hv
      have := h4 i (by have := (List.getElem?_eq_some_iff.1 hv).1; omega)
      rw [hv] at this
      rwa [Go.Deep.add_add] at this
    have hspot : spot = none := by
      obtain ⟨⟨cs0, k1, -⟩, -⟩ := hxs 0 (by omega)
      obtain ⟨_, k3, k4⟩ := World.cells?_some k1
      have := k4 0 h0
      rw [List.getElem?_eq_getElem (show 0 < cs0.length by omega)] at this
      simpa [Addr.add] using World.cell?_spot this
    subst hspot
    refine ⟨b, off, cs', rfl, h3, fun i v hv => ?_, h2⟩
    have := hcell i v hv
    rwa [add_plain] at this
  · have := bulk_range bulk xs D (fun j hj => (hxs j hj).2)
    simp only [Rows.uptoBulk]
    omega
theorem Opens.pair {P : Program} {t : TypeId} {f0 f1 : Field} {α β : Type} {R : CellR α} {S : CellR β} {b0 : α → Nat} {b1 : β → Nat} (ht : P.underlying t = some (.struct #[f0, f1])) {s0 s1 : Nat} (o0 : f0.offset = 0) (o1 : f1.offset = s0)
    (c0 : P.cellsOf f0.type = s0) (c1 : P.cellsOf f1.type = s1) (ct : P.cellsOf t = s0 + s1) (h0 : Opens P f0.type R b0) (h1 : Opens P f1.type S b1) : Opens P t (RPair s0 R S) (fun x => b0 x.1 + b1 x.2 + 1) := by
  refine ⟨fun {H enc W fuel cs x} h => ?_⟩
  obtain ⟨xs, n, -, rfl, hl, hxl, hx⟩ := DataW.trod_struct ht h
  have e0 := hx 0 f0 rfl
  have e1 := hx 1 f1 rfl
  have hx2 : xs.length = 2 := by simpa using hxl
  rw [o0, c0, List.drop_zero] at e0
  rw [o1, c1, List.take_of_length_le (by rw [List.length_drop]; omega)] at e1
  rw [List.getElem?_eq_getElem (show 0 < xs.length by omega)] at e0
  rw [List.getElem?_eq_getElem (show 1 < xs.length by omega)] at e1
  obtain ⟨a, g0, g1⟩ := h0.out e0
  obtain ⟨b, g2, g3⟩ := h1.out e1
  refine ⟨(a, b), ⟨g0, g2⟩, ?_⟩
  match xs, hx2 with
  | [u, v], _ =>
    simp only [List.getElem_cons_zero, List.getElem_cons_succ] at g1 g3
    simp only [List.map_cons, List.map_nil, Rows.uptoBulk, Rows.uptoBulkAll]
    omega
/-- A struct's fields from the offset o on. -/
structure OpensFs (P : Program) (o : Nat) (fs : List Field) (sz : Nat) {β : Type} (R : CellR β) (bulk : β → Nat) : Prop where
  out : ∀ {H : Type} {enc : TypeId × Value → H} {W : World} {fuel : Nat} {cs : List Value} {xs : List (DataW H × List MemPlace)}, cs.length = sz → xs.length = fs.length →
    (∀ (i : Nat) (f : Field), fs[i]? = some f → DataW.trod enc P W 0 (fun _ => true) true fuel f.type ((cs.drop f.offset).take (P.cellsOf f.type)) = xs[i]?) → ∃ b, R W (cs.drop o) b ∧ bulk b ≤ Rows.uptoBulkAll (xs.map (·.1))
def RNil : CellR Unit := fun _ cs _ => cs = []
theorem OpensFs.nil {P : Program} {sz : Nat} : OpensFs P sz [] sz RNil (fun _ => 0) := by
  refine ⟨fun {H enc W fuel cs xs} h1 h2 h3 => ?_⟩
  refine ⟨(), ?_, Nat.zero_le _⟩
  show cs.drop sz = []
  rw [List.drop_eq_nil_iff]; omega
theorem OpensFs.cons {P : Program} {o s sz : Nat} {f : Field} {fs : List Field} {α β : Type} {R : CellR α} {S : CellR β} {b0 : α → Nat} {b1 : β → Nat} (ho : f.offset = o) (hc : P.cellsOf f.type = s) (h0 : Opens P f.type R b0) (h1 : OpensFs P (o + s) fs sz S b1) :
    OpensFs P o (f :: fs) sz (RPair s R S) (fun x => b0 x.1 + b1 x.2) := by
  refine ⟨fun {H enc W fuel cs xs} hl hx h => ?_⟩
  match xs, hx with
  | x :: xs, hx =>
    have e0 := h 0 f rfl
    rw [ho, hc] at e0
    obtain ⟨a, g0, g1⟩ := h0.out e0
    obtain ⟨b, g2, g3⟩ := h1.out hl (by simpa using hx) (fun i f' hf => by simpa using h (i + 1) f' (by simpa using hf))
    refine ⟨(a, b), ⟨g0, by rw [List.drop_drop]; exact g2⟩, ?_⟩
    simp only [List.map_cons, Rows.uptoBulkAll]
    omega
theorem Opens.struct {P : Program} {t : TypeId} {fs : List Field} {sz : Nat} {β : Type} {R : CellR β} {bulk : β → Nat} (ht : P.underlying t = some (.struct ⟨fs⟩)) (ct : P.cellsOf t = sz) (h : OpensFs P 0 fs sz R bulk) : Opens P t R (fun x => bulk x + 1) := by
  refine ⟨fun {H enc W fuel cs x} hx => ?_⟩
  obtain ⟨xs, n, -, rfl, hl, hxl, hx⟩ := DataW.trod_struct ht hx
  obtain ⟨b, g0, g1⟩ := h.out (by rw [hl, ct]) (by simpa using hxl) (fun i f hf => hx i f (by simpa using hf))
  refine ⟨b, by simpa using g0, ?_⟩
  simp only [Rows.uptoBulk]; omega
theorem RSl.inv {β : Type} {sz : Nat} {R : CellR β} {W : World} {v : Value} {xs : List β} (h : RSl sz R W [v] xs) : ∃ (a : Option Addr) (cap : Nat), v = .slice a xs.length cap ∧ xs.length ≤ cap ∧ cap ≤ maxLen ∧ RSl sz R W [.slice a xs.length cap] xs := by
  obtain ⟨a, cap, h1, h2, h3, h4⟩ := h.ex
  refine ⟨a, cap, by simpa using h1, h2, h3, ⟨a, cap, rfl, h2, h3, h4⟩⟩
theorem RSl.get {β : Type} {R : CellR β} {W : World} {a : Option Addr} {n cap : Nat} {xs : List β} (h : RSl 1 R W [.slice a n cap] xs) {j : Nat} (hj : j < xs.length) : ∃ b off v, a = some ⟨b, off, none⟩ ∧ W.cell? ⟨b, off + j, none⟩ = some v ∧ R W [v] xs[j] := by
  obtain ⟨a', cap', h1, -, -, h4⟩ := h.ex
  obtain ⟨b, off, cs, h5, h6, h7, h8⟩ := h4 j hj
  have : a = a' := by simpa using (List.cons.inj h1).1 |> fun h => (Value.slice.inj h).1
  subst this
  match cs, h6 with
  | [v], _ => exact ⟨b, off, v, h5, by simpa using h7 0 v rfl, h8⟩
theorem RSl.strs {W : World} {a : Option Addr} {n cap : Nat} {xs : List Bytes} (h : RSl 1 RStr W [.slice a n cap] xs) : Arr W [] a (xs.map Str) := by
  intro j x hj
  have hjl : j < xs.length := by have := (List.getElem?_eq_some_iff.1 hj).1; simpa using this
  obtain ⟨b, off, v, h1, h2, h3, -⟩ := h.get hjl
  refine ⟨b, off, h1, by simp, ?_⟩
  have : x = v := by
    rw [List.getElem?_map, List.getElem?_eq_getElem hjl] at hj
    simp at hj h3; rw [h3, ← hj]
  rw [this]; exact h2

theorem Trod.out {H : Type} {enc : TypeId × Value → H} {P : Program} {W : World} {t : TypeId} {v : Value} {d : DataW H} {p : List MemPlace} (hd : DataW.Trod enc P W 0 (fun _ => true) true t v d p) {β : Type} {R : CellR β} {bulk : β → Nat} (h : Opens P t R bulk) :
    ∃ b, R W v.cells.toList b ∧ bulk b ≤ Rows.uptoBulk d := by
  obtain ⟨fuel, hf⟩ := hd
  exact h.out hf
theorem bulk_SS (bss : List (List Bytes)) : ((bss.map fun ps => (ps.map fun s => s.length + 1).sum + 1).sum + 1) = sumLen bss.flatten + bss.flatten.length + bss.length + 1 := by
  have key : ∀ ps : List Bytes, (ps.map fun s => s.length + 1).sum = sumLen ps + ps.length := by
    intro ps
    induction ps with
    | nil => rfl
    | cons s r ih => simp only [sumLen, List.map_cons, List.sum_cons, List.length_cons] at ih ⊢; omega
  induction bss with
  | nil => rfl
  | cons ps r ih =>
    simp only [List.map_cons, List.sum_cons, List.flatten_cons, List.length_cons, List.length_append, key] at ih ⊢
    have : sumLen (ps ++ r.flatten) = sumLen ps + sumLen r.flatten := by simp [sumLen]
    omega
end Go.Proofs.YthpmmfapolcaiaaDoor

/- Slices that are handed in: their structs, loaded. -/
namespace Go.Proofs.YthpmmfapolcaiaaDoor
open Go Go.Eng Go.Proofs
/-- The j-th struct of a slice that was handed in. -/
theorem RSl.at {β : Type} {sz : Nat} {R : CellR β} {W : World} {a : Option Addr} {n cap : Nat} {xs : List β} (h : RSl sz R W [.slice a n cap] xs) {j : Nat} (hj : j < xs.length) :
    ∃ b off cs, a = some ⟨b, off, none⟩ ∧ cs.length = sz ∧ (∀ i v, cs[i]? = some v → W.cell? ⟨b, off + (j * sz + i), none⟩ = some v) ∧ R W cs xs[j] := by
  obtain ⟨a', cap', h1, -, -, h4⟩ := h.ex
  have : a = a' := by simpa using (List.cons.inj h1).1 |> fun h => (Value.slice.inj h).1
  subst this
  exact h4 j hj
/-- What was handed in stays. -/
theorem RSl.keep {β : Type} {sz : Nat} {R : CellR β} {w0 w : World} {H : Heap} (hS : St w0 [] H w) (hR : ∀ cs x, R w0 cs x → R w cs x) {cs : List Value} {xs : List β} (h : RSl sz R w0 cs xs) : RSl sz R w cs xs := by
  obtain ⟨a, cap, h1, h2, h3, h4⟩ := h.ex
  refine ⟨a, cap, h1, h2, h3, fun j hj => ?_⟩
  obtain ⟨b, off, cs', h5, h6, h7, h8⟩ := h4 j hj
  exact ⟨b, off, cs', h5, h6, fun i v hv => hS.oldCell (by simp) (h7 i v hv), hR _ _ h8⟩
/-- The j-th struct of a slice that was handed in, loaded. -/
theorem RSl.ldn {β : Type} {sz : Nat} {R : CellR β} {w0 w : World} {H : Heap} (hS : St w0 [] H w) {a : Option Addr} {n cap : Nat} {xs : List β} (h : RSl sz R w0 [.slice a n cap] xs) {j : Nat} (hj : j < xs.length) :
    ∃ b off cs, a = some ⟨b, off, none⟩ ∧ R w0 cs xs[j] ∧ ∀ K : List Value → Prop, K cs → LdN (fun w' => w = w') sz b (off + j * sz) K := by
  obtain ⟨b, off, cs, h1, h2, h3, h4⟩ := h.at hj
  refine ⟨b, off, cs, h1, h4, fun K hK => ⟨⟨cs, h2, fun _ e i v hv => ?_, hK⟩⟩⟩
  subst e
  have := hS.oldCell (by simp) (h3 i v hv)
  rw [← Nat.add_assoc] at this
  exact this
/-- The j-th struct of a slice that was handed in, loaded in any world of a class. -/
theorem RSl.ldnC {β : Type} {sz : Nat} {R : CellR β} {w0 : World} {a : Option Addr} {n cap : Nat} {xs : List β} (h : RSl sz R w0 [.slice a n cap] xs) {j : Nat} (hj : j < xs.length) :
    ∃ b off cs, a = some ⟨b, off, none⟩ ∧ R w0 cs xs[j] ∧ ∀ K : List Value → Prop, K cs → LdN (fun w' => St w0 [] [] w') sz b (off + j * sz) K := by
  obtain ⟨b, off, cs, h1, h2, h3, h4⟩ := h.at hj
  refine ⟨b, off, cs, h1, h4, fun K hK => ⟨⟨cs, h2, fun _ e i v hv => ?_, hK⟩⟩⟩
  have := e.oldCell (by simp) (h3 i v hv)
  rw [← Nat.add_assoc] at this
  exact this
theorem RSl.mem {β : Type} {sz : Nat} {R : CellR β} {W : World} {v : Value} {xs : List β} (h : RSl sz R W [v] xs) {x : β} (hx : x ∈ xs) : ∃ cs, R W cs x := by
  obtain ⟨a, cap, -, -, -, h4⟩ := h.ex
  obtain ⟨i, hi, rfl⟩ := List.mem_iff_getElem.1 hx
  obtain ⟨b, off, cs, -, -, -, h8⟩ := h4 i hi
  exact ⟨cs, h8⟩
theorem Opens.map {P : Program} {t : TypeId} {β γ : Type} {R : CellR β} {S : CellR γ} {bk : β → Nat} {bk' : γ → Nat} (h : Opens P t R bk) (f : β → γ) (hf : ∀ W cs x, R W cs x → S W cs (f x)) (hb : ∀ x, bk' (f x) ≤ bk x) : Opens P t S bk' := by
  refine ⟨fun {H enc W fuel cs x} hx => ?_⟩
  obtain ⟨b, h1, h2⟩ := h.out hx
  exact ⟨f b, hf _ _ _ h1, Nat.le_trans (hb b) h2⟩
def i64b (n : Int) : Prop := -9223372036854775808 ≤ n ∧ n ≤ 9223372036854775807
theorem wf_i64b {n : Int} (h : (Lit.int .i64 n).wf = true) : i64b n := by
  unfold i64b; simpa [Lit.wf, IntKind.min, IntKind.max, IntKind.signed, IntKind.bits] using h
theorem wf_u8b {n : Int} (h : (Lit.int .u8 n).wf = true) : 0 ≤ n ∧ n ≤ 255 := by
  simpa [Lit.wf, IntKind.min, IntKind.max, IntKind.signed, IntKind.bits] using h
/-- The first cell, and the rest. -/
theorem take1' {cs : List Value} {x : Value} (h : cs.take 1 = [x]) : cs = x :: cs.drop 1 := by
  conv => lhs; rw [← List.take_append_drop 1 cs, h]
  rfl
theorem pair_int {k : IntKind} {β : Type} {S : CellR β} {W : World} {cs : List Value} {x : Int × β} (h : RPair 1 (RInt k) S W cs x) : cs = .int k x.1 :: cs.drop 1 ∧ (Lit.int k x.1).wf = true ∧ S W (cs.drop 1) x.2 :=
  ⟨take1' h.1.1, h.1.2, h.2⟩
theorem pair_bool {β : Type} {S : CellR β} {W : World} {cs : List Value} {x : Bool × β} (h : RPair 1 RBool S W cs x) : cs = .bool x.1 :: cs.drop 1 ∧ S W (cs.drop 1) x.2 :=
  ⟨take1' h.1, h.2⟩
theorem pair_str {β : Type} {S : CellR β} {W : World} {cs : List Value} {x : Bytes × β} (h : RPair 1 RStr S W cs x) : cs = Str x.1 :: cs.drop 1 ∧ S W (cs.drop 1) x.2 :=
  ⟨take1' h.1.1, h.2⟩
theorem pair_sl {α β : Type} {sz : Nat} {R : CellR α} {S : CellR β} {W : World} {cs : List Value} {x : List α × β} (h : RPair 1 (RSl sz R) S W cs x) : ∃ v, cs = v :: cs.drop 1 ∧ RSl sz R W [v] x.1 ∧ S W (cs.drop 1) x.2 := by
  obtain ⟨a, cap, h1, -⟩ := h.1.ex
  refine ⟨_, take1' h1, ?_, h.2⟩
  rw [← h1]; exact h.1
end Go.Proofs.YthpmmfapolcaiaaDoor

/- A state of the engine, as plain data: its parts in memory, its records. -/
namespace Go.Proofs.YthpmmfapolcaiaaDoor
open Go Go.Eng Go.Proofs

structure RowM where
  num : Int
  cab : Int
  zone : Int
  exit : Bool
  seats : Bytes
structure EquipM where
  id : Int
  rows : List RowM
structure FlightM where
  id : Int
  equip : Int
  phase : Int
  seq : Int
  l0 : Int
  l1 : Int
  l2 : Int
  l3 : Int
structure PaxM where
  id : Int
  flight : Int
  cab : Int
  fit : Bool
  infant : Bool
  vol : Bool
  stb : Bool
  cls : Int
  status : Int
  tick : Int
  pass : Int
  num : Int
  c : Nat
structure StateM where
  eqs : List EquipM
  fls : List FlightM
  pxs : List PaxM
/-- A list of cells read one by one. -/
theorem pair_one {α β : Type} {R : CellR α} {S : CellR β} {W : World} {cs : List Value} {x : α × β} {v : Value} (h : RPair 1 R S W cs x) (hv : ∀ cs', R W cs' x.1 → cs' = [v]) : cs = v :: cs.drop 1 ∧ S W (cs.drop 1) x.2 :=
  ⟨take1' (hv _ h.1), h.2⟩
def rowC (r : RowM) : List Value := [.int .i64 r.num, .int .i64 r.cab, .int .i64 r.zone, .bool r.exit, Str r.seats]
structure RowM.ok (r : RowM) : Prop where
  num : i64b r.num
  cab : i64b r.cab
  zone : i64b r.zone
def RRow : CellR RowM := fun _ cs r => cs = rowC r ∧ r.ok
def flC (f : FlightM) : List Value := [.int .i64 f.id, .int .i64 f.equip, .int .i64 f.phase, .int .i64 f.seq, .int .i64 f.l0, .int .i64 f.l1, .int .i64 f.l2, .int .i64 f.l3]
structure FlightM.ok (f : FlightM) : Prop where
  id : i64b f.id
  equip : i64b f.equip
  phase : i64b f.phase
  seq : i64b f.seq
  l0 : i64b f.l0
  l1 : i64b f.l1
  l2 : i64b f.l2
  l3 : i64b f.l3
def RFlight : CellR FlightM := fun _ cs f => cs = flC f ∧ f.ok
def paxC (p : PaxM) : List Value := [.int .i64 p.id, .int .i64 p.flight, .int .i64 p.cab, .bool p.fit, .bool p.infant, .bool p.vol, .bool p.stb, .int .i64 p.cls, .int .i64 p.status, .int .i64 p.tick, .int .i64 p.pass, .int .i64 p.num, .int .u8 p.c]
structure PaxM.ok (p : PaxM) : Prop where
  id : i64b p.id
  flight : i64b p.flight
  cab : i64b p.cab
  cls : i64b p.cls
  status : i64b p.status
  tick : i64b p.tick
  pass : i64b p.pass
  num : i64b p.num
  c : p.c < 256
def RPax : CellR PaxM := fun _ cs p => cs = paxC p ∧ p.ok
def REquip : CellR EquipM := fun W cs e => ∃ v, cs = [.int .i64 e.id, v] ∧ i64b e.id ∧ RSl 5 RRow W [v] e.rows
def RState : CellR StateM := fun W cs s => ∃ u v x, cs = [u, v, x] ∧ RSl 2 REquip W [u] s.eqs ∧ RSl 8 RFlight W [v] s.fls ∧ RSl 13 RPax W [x] s.pxs
end Go.Proofs.YthpmmfapolcaiaaDoor

/- Package pack: the writer's texts. -/
namespace Go.Proofs.YthpmmfapolcaiaaDoor
open Go Go.Eng Go.Proofs
def textsB (ss : List Bytes) : Bytes := (ss.map textB).flatten
theorem texts_succ (ss : List Bytes) (k : Nat) (hk : k < ss.length) : textsB (ss.take (k + 1)) = textsB (ss.take k) ++ textB ss[k] := by
  unfold textsB
  rw [List.take_succ_eq_append_getElem hk, List.map_append, List.flatten_append, List.map_cons, List.map_nil, List.flatten_cons, List.flatten_nil, List.append_nil]
theorem texts_len (ss : List Bytes) (h : sumLen ss ≤ 18446744073709551615) : (textsB ss).length ≤ 10 * ss.length + sumLen ss := by
  induction ss with
  | nil => simp [textsB]
  | cons z r ih =>
    have e : sumLen (z :: r) = z.length + sumLen r := by simp [sumLen]
    have h1 := numB_len10 z.length (by omega)
    have h2 := ih (by omega)
    rw [e]
    simp only [textsB, List.map_cons, List.flatten_cons, List.length_append, List.length_cons, textB] at h2 ⊢; omega
set_option maxHeartbeats 1000000 in
theorem Text_spec {w : World} {b : Nat} {bs : Bytes} {L : Heap} (hW : PackW b bs L) (hh : Holds L w) {a : Option Addr} {cap : Nat} {ss : List Bytes} (ha : Arr w (keys L) a (ss.map Str)) (hlen : bs.length + 10 * ss.length + sumLen ss ≤ 140737488355328) :
    Cl Tryd.prog f_pack_Writer_Text [ptr b, .slice a ss.length cap] w fun _ w' => ∃ L', PackW b (bs ++ textsB ss) L' ∧ St w (keys L) L' w' := by
  have hS := St.enter hh
  generalize hT : keys L = T0 at hS ha ⊢
  refine en_pack_Writer_Text rfl ?_
  repeat (first | refine SemW.run tblOk ?_ | refine jA (by omega) ?_ | refine jB (by omega) ?_ | refine jC (by omega) ?_ | refine jD (by omega) ?_ | refine jE rfl ?_ | refine jF (by omega) ?_ | (refine jG ?_; first | with_reducible (first | refine jH ?_ | refine jI ?_ | refine jJ ?_ | refine jK ?_ | refine jL ?_) | refine jM (by omega) ?_ | refine jN (by omega) ?_ | with_reducible refine jM rfl ?_ | refine jM (by assumption) ?_ | refine jN (by assumption) ?_ | refine jM (by decide) ?_ | refine jN (by decide) ?_) | refine jF (ptr_ok tblOk rfl rfl) ?_ | refine jO (fun _ => by kernel_rfl) ?_ | refine jF (by decide) ?_)
  refine SemW.loop (fun k : Nat => [(0, ptr b), (6, .slice a ss.length cap), (7, .int .i64 ss.length), (8, .int .i64 k)])
    (fun k w' => k ≤ ss.length ∧ ∃ L', PackW b (bs ++ textsB (ss.take k)) L' ∧ St w T0 L' w') (fun k => ss.length - k) 0
    ⟨rfl, rfl, rfl, rfl, trivial⟩ ⟨Nat.zero_le _, L, by simpa [textsB] using hW, hS⟩ ?_
  rintro k w1 ⟨hk, L1, hW1, hS⟩
  by_cases hkl : k < ss.length
  · obtain ⟨b', off', rfl, hbT, hck⟩ := ha.get (j := k) (by simp; omega)
    simp only [List.getElem_map] at hck
    have hs := texts_succ ss k hkl
    have h1 := sumLen_take ss k hkl
    have h2 := sumLen_take_le ss (k + 1)
    have hln := texts_len (ss.take k) (by omega)
    have hlt : (ss.take k).length = k := by simp; omega
    have h10 := numB_len10 ss[k].length (by omega)
    repeat (first | refine SemW.run tblOk ?_ | refine jA (by omega) ?_ | refine jB (by omega) ?_ | refine jC (by omega) ?_ | refine jD (by omega) ?_ | refine jE rfl ?_ | refine jF (by omega) ?_ | (refine jG ?_; first | with_reducible (first | refine jH ?_ | refine jI ?_ | refine jJ ?_ | refine jK ?_ | refine jL ?_) | refine jM (by omega) ?_ | refine jN (by omega) ?_ | with_reducible refine jM rfl ?_ | refine jM (by assumption) ?_ | refine jN (by assumption) ?_ | refine jM (by decide) ?_ | refine jN (by decide) ?_) | refine jF (ptr_ok tblOk rfl rfl) ?_ | refine jO (fun _ => by kernel_rfl) ?_ | refine jF (by decide) ?_)
    refine hS.ldOld hbT (by simpa using hck) ?_
    repeat (first | refine SemW.run tblOk ?_ | refine jA (by omega) ?_ | refine jB (by omega) ?_ | refine jC (by omega) ?_ | refine jD (by omega) ?_ | refine jE rfl ?_ | refine jF (by omega) ?_ | (refine jG ?_; first | with_reducible (first | refine jH ?_ | refine jI ?_ | refine jJ ?_ | refine jK ?_ | refine jL ?_) | refine jM (by omega) ?_ | refine jN (by omega) ?_ | with_reducible refine jM rfl ?_ | refine jM (by assumption) ?_ | refine jN (by assumption) ?_ | refine jM (by decide) ?_ | refine jN (by decide) ?_) | refine jF (ptr_ok tblOk rfl rfl) ?_ | refine jO (fun _ => by kernel_rfl) ?_ | refine jF (by decide) ?_)
    refine hS.al ?_
    intro r w3 _ hS
    repeat (first | refine SemW.run tblOk ?_ | refine jA (by omega) ?_ | refine jB (by omega) ?_ | refine jC (by omega) ?_ | refine jD (by omega) ?_ | refine jE rfl ?_ | refine jF (by omega) ?_ | (refine jG ?_; first | with_reducible (first | refine jH ?_ | refine jI ?_ | refine jJ ?_ | refine jK ?_ | refine jL ?_) | refine jM (by omega) ?_ | refine jN (by omega) ?_ | with_reducible refine jM rfl ?_ | refine jM (by assumption) ?_ | refine jN (by assumption) ?_ | refine jM (by decide) ?_ | refine jN (by decide) ?_) | refine jF (ptr_ok tblOk rfl rfl) ?_ | refine jO (fun _ => by kernel_rfl) ?_ | refine jF (by decide) ?_)
    refine Cl.mono (Num_spec hW1 (hS.part (L := L1)) (ns := [ss[k].length]) (hS.arr (b := r) (nodup_new hS)) (by simp; omega) (by simp) (by rw [List.length_append, List.length_singleton]; omega)) ?_
    rintro _ w4 ⟨L3, hW3, hS'⟩
    have hS := (hS.call (L := L1) hS').sub (List.sublist_cons_self _ _)
    have hW3 : PackW b (bs ++ textsB (ss.take k) ++ numB ss[k].length) L3 := by simpa using hW3
    repeat (first | refine SemW.run tblOk ?_ | refine jA (by omega) ?_ | refine jB (by omega) ?_ | refine jC (by omega) ?_ | refine jD (by omega) ?_ | refine jE rfl ?_ | refine jF (by omega) ?_ | (refine jG ?_; first | with_reducible (first | refine jH ?_ | refine jI ?_ | refine jJ ?_ | refine jK ?_ | refine jL ?_) | refine jM (by omega) ?_ | refine jN (by omega) ?_ | with_reducible refine jM rfl ?_ | refine jM (by assumption) ?_ | refine jN (by assumption) ?_ | refine jM (by decide) ?_ | refine jN (by decide) ?_) | refine jF (ptr_ok tblOk rfl rfl) ?_ | refine jO (fun _ => by kernel_rfl) ?_ | refine jF (by decide) ?_)
    refine St.toBytes tblOk rfl rfl rfl rfl rfl rfl hS ?_
    intro r2 c2 z fz w5 hc hS
    repeat (first | refine SemW.run tblOk ?_ | refine jA (by omega) ?_ | refine jB (by omega) ?_ | refine jC (by omega) ?_ | refine jD (by omega) ?_ | refine jE rfl ?_ | refine jF (by omega) ?_ | (refine jG ?_; first | with_reducible (first | refine jH ?_ | refine jI ?_ | refine jJ ?_ | refine jK ?_ | refine jL ?_) | refine jM (by omega) ?_ | refine jN (by omega) ?_ | with_reducible refine jM rfl ?_ | refine jM (by assumption) ?_ | refine jN (by assumption) ?_ | refine jM (by decide) ?_ | refine jN (by decide) ?_) | refine jF (ptr_ok tblOk rfl rfl) ?_ | refine jO (fun _ => by kernel_rfl) ?_ | refine jF (by decide) ?_)
    refine Cl.mono (add_spec hW3 (hS.part (L := L3)) (xs := ss[k]) (Arr.take (hS.arr (b := r2) (nodup_new hS))) (by rw [List.length_append, List.length_append]; omega)) ?_
    rintro _ w6 ⟨L4, hW4, hS'⟩
    have hS := (hS.call (L := L3) hS').sub (List.sublist_cons_self _ _)
    repeat (first | refine SemW.run tblOk ?_ | refine jA (by omega) ?_ | refine jB (by omega) ?_ | refine jC (by omega) ?_ | refine jD (by omega) ?_ | refine jE rfl ?_ | refine jF (by omega) ?_ | (refine jG ?_; first | with_reducible (first | refine jH ?_ | refine jI ?_ | refine jJ ?_ | refine jK ?_ | refine jL ?_) | refine jM (by omega) ?_ | refine jN (by omega) ?_ | with_reducible refine jM rfl ?_ | refine jM (by assumption) ?_ | refine jN (by assumption) ?_ | refine jM (by decide) ?_ | refine jN (by decide) ?_) | refine jF (ptr_ok tblOk rfl rfl) ?_ | refine jO (fun _ => by kernel_rfl) ?_ | refine jF (by decide) ?_)
    refine ⟨k + 1, ⟨rfl, rfl, rfl, rfl, trivial⟩, ⟨by omega, L4, ?_, hS⟩, by omega⟩
    rw [hs, textB]
    simpa using hW4
  · have hke : k = ss.length := by omega
    subst hke
    rw [List.take_length] at hW1
    repeat (first | refine SemW.run tblOk ?_ | refine jA (by omega) ?_ | refine jB (by omega) ?_ | refine jC (by omega) ?_ | refine jD (by omega) ?_ | refine jE rfl ?_ | refine jF (by omega) ?_ | (refine jG ?_; first | with_reducible (first | refine jH ?_ | refine jI ?_ | refine jJ ?_ | refine jK ?_ | refine jL ?_) | refine jM (by omega) ?_ | refine jN (by omega) ?_ | with_reducible refine jM rfl ?_ | refine jM (by assumption) ?_ | refine jN (by assumption) ?_ | refine jM (by decide) ?_ | refine jN (by decide) ?_) | refine jF (ptr_ok tblOk rfl rfl) ?_ | refine jO (fun _ => by kernel_rfl) ?_ | refine jF (by decide) ?_)
    exact ⟨L1, hW1, hS⟩
end Go.Proofs.YthpmmfapolcaiaaDoor

/- Plain: the bytes of rows, flights, passengers. -/
namespace Go.Proofs.YthpmmfapolcaiaaDoor
open Go Go.Eng Go.Proofs

/-- Marks as one number. -/
def marksN : List Bool → Nat
  | [] => 0
  | b :: l => (if b then 1 else 0) + 2 * marksN l
theorem marksN_lt : ∀ l, marksN l < 2 ^ l.length
  | [] => by simp [marksN]
  | b :: l => by
    have := marksN_lt l
    rw [marksN, List.length_cons, Nat.pow_succ]
    split <;> omega
theorem marksN_snoc : ∀ (l : List Bool) (b : Bool), marksN (l ++ [b]) = marksN l + (if b then 2 ^ l.length else 0)
  | [], b => by simp [marksN]
  | c :: l, b => by
    rw [List.cons_append, marksN, marksN_snoc l b, marksN, List.length_cons, Nat.pow_succ]
    split <;> split <;> omega
def rowB (r : RowM) : Bytes := intsB [r.num, r.cab, r.zone] ++ (numB (marksN [r.exit]) ++ textsB [r.seats])
def rowsBt (rs : List RowM) : Bytes := (rs.map rowB).flatten
def equipB (e : EquipM) : Bytes := numB e.rows.length ++ rowsBt e.rows
theorem i64ok_of {n : Int} (h : i64b n) : i64ok n := h
theorem rowB_len (r : RowM) (h : r.ok) (hs : r.seats.length ≤ 1048576) : (rowB r).length ≤ 50 + r.seats.length := by
  have h1 := ints_len [r.num, r.cab, r.zone] (by
    intro z hz
    simp only [List.mem_cons, List.mem_nil_iff, or_false] at hz
    rcases hz with rfl | rfl | rfl
    · exact h.num
    · exact h.cab
    · exact h.zone)
  have h2 := texts_len [r.seats] (by simp [sumLen]; omega)
  have h3 := marksN_lt [r.exit]
  have h4 := numB_len10 (marksN [r.exit]) (by have h3' : marksN [r.exit] < 2 := h3; omega)
  have h5 : sumLen [r.seats] = r.seats.length := by simp [sumLen]
  simp only [List.length_cons, List.length_nil] at h1 h2
  unfold rowB
  simp only [List.length_append]; omega
def rowsW (rs : List RowM) : Nat := (rs.map fun r => r.seats.length + 6).sum
theorem rowsW_at (rs : List RowM) (k : Nat) (hk : k < rs.length) : rs[k].seats.length + 6 ≤ rowsW rs := by
  induction rs generalizing k with
  | nil => simp at hk
  | cons r rs ih =>
    unfold rowsW at *
    rw [List.map_cons, List.sum_cons]
    cases k with
    | zero => simp
    | succ k => have := ih k (by simpa using hk); rw [List.getElem_cons_succ]; omega
theorem rowsW_len (rs : List RowM) : 6 * rs.length ≤ rowsW rs := by
  induction rs with
  | nil => simp
  | cons r rs ih => unfold rowsW at *; rw [List.map_cons, List.sum_cons, List.length_cons]; omega
theorem rowsBt_len (rs : List RowM) (h : ∀ r ∈ rs, r.ok) (hw : rowsW rs ≤ 1048576) : (rowsBt rs).length ≤ 50 * rowsW rs := by
  induction rs with
  | nil => simp [rowsBt]
  | cons r rs ih =>
    have h1 : rowsW (r :: rs) = r.seats.length + 6 + rowsW rs := by simp [rowsW]
    have h2 := rowB_len r (h r List.mem_cons_self) (by omega)
    have h3 := ih (fun q hq => h q (List.mem_cons_of_mem _ hq)) (by omega)
    simp only [rowsBt, List.map_cons, List.flatten_cons, List.length_append] at h3 ⊢
    omega
theorem rowsBt_succ (rs : List RowM) (k : Nat) (hk : k < rs.length) : rowsBt (rs.take (k + 1)) = rowsBt (rs.take k) ++ rowB rs[k] := by
  unfold rowsBt
  rw [List.take_succ_eq_append_getElem hk, List.map_append, List.flatten_append]; simp
theorem rowsW_take (rs : List RowM) (k : Nat) : rowsW (rs.take k) ≤ rowsW rs := by
  have h := congrArg (fun l => (l.map fun r : RowM => r.seats.length + 6).sum) (List.take_append_drop k rs)
  simp only [List.map_append, List.sum_append] at h
  unfold rowsW; omega
def flightB (f : FlightM) : Bytes := intsB [f.equip, f.phase, f.seq] ++ intsB [f.l0, f.l1, f.l2, f.l3]
def seatB (num : Int) (c : Nat) : Bytes := if num = 0 ∧ c = 0 then [] else labelB num c
def paxB (p : PaxM) : Bytes := intsB [p.flight, p.cab, p.cls, p.status, p.tick, p.pass] ++ numB (marksN [p.fit, p.infant, p.vol, p.stb]) ++ textB (seatB p.num p.c)
theorem seatB_len (n : Int) (c : Nat) : (seatB n c).length ≤ 3 := by
  unfold seatB; split
  · simp
  · exact (labelB_len n c).2
theorem FlightM.ok.limits {f : FlightM} (hf : f.ok) : ∀ z ∈ [f.l0, f.l1, f.l2, f.l3], i64ok z := by
  intro z hz
  simp only [List.mem_cons, List.mem_nil_iff, or_false] at hz
  rcases hz with rfl | rfl | rfl | rfl
  · exact hf.l0
  · exact hf.l1
  · exact hf.l2
  · exact hf.l3
theorem FlightM.ok.head {f : FlightM} (hf : f.ok) : ∀ z ∈ [f.equip, f.phase, f.seq], i64ok z := by
  intro z hz
  simp only [List.mem_cons, List.mem_nil_iff, or_false] at hz
  rcases hz with rfl | rfl | rfl
  · exact hf.equip
  · exact hf.phase
  · exact hf.seq
theorem PaxM.ok.head {p : PaxM} (h : p.ok) : ∀ z ∈ [p.flight, p.cab, p.cls, p.status, p.tick, p.pass], i64ok z := by
  intro z hz
  simp only [List.mem_cons, List.mem_nil_iff, or_false] at hz
  rcases hz with rfl | rfl | rfl | rfl | rfl | rfl
  · exact h.flight
  · exact h.cab
  · exact h.cls
  · exact h.status
  · exact h.tick
  · exact h.pass
theorem marks4_lt (a b c d : Bool) : marksN [a, b, c, d] < 16 := marksN_lt [a, b, c, d]
end Go.Proofs.YthpmmfapolcaiaaDoor

/- Plain laws of reading: numbers, texts. -/
namespace Go.Proofs.YthpmmfapolcaiaaDoor
open Go Go.Eng

/-- The number that begins a text's rest behind k bytes of it; what stands behind the number. -/
def numS : Nat → Bytes → Option (Nat × Bytes)
  | _, [] => none
  | k, c :: u => if 9 < k ∨ (k = 9 ∧ 1 < c.toNat) ∨ (0 < k ∧ c.toNat = 0) then none
    else if c.toNat < 128 then some (c.toNat, u)
    else match numS (k + 1) u with
      | some (m, r) => some (c.toNat % 128 + 128 * m, r)
      | none => none
theorem u8_ofNat (c : UInt8) : UInt8.ofNat c.toNat = c := by simp
theorem numS_some : ∀ (u : Bytes) (k m : Nat) (r : Bytes), numS k u = some (m, r) → u = numB m ++ r ∧ (0 < k → 0 < m) ∧ k ≤ 9 ∧ m < 2 ^ (64 - 7 * k)
  | [], k, m, r, h => by simp [numS] at h
  | c :: u, k, m, r, h => by
    have hc := c.toNat_lt
    rw [numS] at h
    split at h
    · cases h
    · rename_i h1
      split at h
      · rename_i h2
        simp only [Option.some.injEq, Prod.mk.injEq] at h
        obtain ⟨rfl, rfl⟩ := h
        refine ⟨by rw [numB_lt h2, u8_ofNat]; rfl, by omega, by omega, ?_⟩
        by_cases hk : k = 9
        · subst hk; show _ < 2; omega
        · exact Nat.lt_of_lt_of_le h2 (Nat.pow_le_pow_right (n := 2) (i := 7) (by omega) (by omega))
      · rename_i h2
        split at h
        · rename_i m' r' h3
          simp only [Option.some.injEq, Prod.mk.injEq] at h
          obtain ⟨rfl, rfl⟩ := h
          obtain ⟨h4, h5, h6, h7⟩ := numS_some u (k + 1) m' r' h3
          have h8 := h5 (by omega)
          refine ⟨?_, by omega, by omega, ?_⟩
          · rw [numB_ge (by omega), h4, show (c.toNat % 128 + 128 * m') % 128 + 128 = c.toNat by omega, show (c.toNat % 128 + 128 * m') / 128 = m' by omega, u8_ofNat]
            rfl
          · rw [show 64 - 7 * k = (64 - 7 * (k + 1)) + 7 by omega, Nat.pow_add]
            generalize 2 ^ (64 - 7 * (k + 1)) = P at *
            omega
        · cases h
theorem numS_app : ∀ (j m k : Nat) (r : Bytes), m < 2 ^ (64 - 7 * k) → k + j = 9 → (0 < k → 0 < m) → numS k (numB m ++ r) = some (m, r) := by
  intro j
  induction j with
  | zero =>
    intro m k r hm hk h0
    obtain rfl : k = 9 := by omega
    have hm : m < 2 := hm
    rw [numB_lt (by omega)]
    simp only [List.cons_append, List.nil_append, numS]
    have e : (UInt8.ofNat m).toNat = m := by simp; omega
    rw [e, if_neg (by omega), if_pos (by omega)]
  | succ j ih =>
    intro m k r hm hk h0
    by_cases h : m < 128
    · rw [numB_lt h]
      simp only [List.cons_append, List.nil_append, numS]
      have e : (UInt8.ofNat m).toNat = m := by simp; omega
      rw [e, if_neg (by omega), if_pos (by omega)]
    · rw [numB_ge h]
      simp only [List.cons_append, numS]
      have e : (UInt8.ofNat (m % 128 + 128)).toNat = m % 128 + 128 := by simp; omega
      rw [e, if_neg (by omega), if_neg (by omega), ih (m / 128) (k + 1) r ?_ (by omega) (by omega)]
      · simp only [Option.some.injEq, Prod.mk.injEq, and_true]; omega
      · rw [show 64 - 7 * k = (64 - 7 * (k + 1)) + 7 by omega, Nat.pow_add] at hm
        generalize 2 ^ (64 - 7 * (k + 1)) = P at *
        omega
/-- The number at the text's beginning. -/
def numR (t : Bytes) : Option (Nat × Bytes) := numS 0 t
theorem numR_iff (t : Bytes) (m : Nat) (r : Bytes) : numR t = some (m, r) ↔ t = numB m ++ r ∧ m < 18446744073709551616 := by
  constructor
  · intro h
    obtain ⟨h1, -, -, h2⟩ := numS_some t 0 m r h
    exact ⟨h1, h2⟩
  · rintro ⟨rfl, h⟩
    exact numS_app 9 m 0 r h rfl (by omega)
def unzig (u : Nat) : Int := if u % 2 = 0 then (u / 2 : Nat) else -((u / 2 : Nat) : Int) - 1
theorem unzig_zig (z : Int) : unzig (zig z) = z := by
  unfold unzig zig; split <;> split <;> omega
theorem zig_unzig (u : Nat) : zig (unzig u) = u := by
  unfold unzig zig; split <;> split <;> omega
/-- A whole number at the text's beginning. -/
def intR (t : Bytes) : Option (Int × Bytes) := match numR t with
  | some (m, r) => some (unzig m, r)
  | none => none
theorem intR_iff (t : Bytes) (z : Int) (r : Bytes) : intR t = some (z, r) ↔ t = intB z ++ r ∧ zig z < 18446744073709551616 := by
  unfold intR intB
  cases h : numR t with
  | none =>
    simp only [false_iff, reduceCtorEq]
    intro hh
    rw [(numR_iff t (zig z) r).2 hh] at h; cases h
  | some x =>
    obtain ⟨m, r'⟩ := x
    obtain ⟨h1, h2⟩ := (numR_iff t m r').1 h
    simp only [Option.some.injEq, Prod.mk.injEq]
    constructor
    · rintro ⟨rfl, rfl⟩
      rw [zig_unzig]; exact ⟨h1, h2⟩
    · rintro ⟨h3, h4⟩
      rw [(numR_iff t (zig z) r).2 ⟨h3, h4⟩] at h
      simp only [Option.some.injEq, Prod.mk.injEq] at h
      obtain ⟨rfl, rfl⟩ := h
      exact ⟨unzig_zig z, rfl⟩
/-- A text at the text's beginning. -/
def textR (t : Bytes) : Option (Bytes × Bytes) := match numR t with
  | some (m, r) => if r.length < m then none else some (r.take m, r.drop m)
  | none => none
theorem textR_iff (t s r : Bytes) : textR t = some (s, r) ↔ t = textB s ++ r ∧ s.length < 18446744073709551616 := by
  unfold textR textB
  cases h : numR t with
  | none =>
    simp only [false_iff, reduceCtorEq]
    intro hh
    rw [(numR_iff t s.length (s ++ r)).2 ⟨by rw [hh.1, List.append_assoc], hh.2⟩] at h; cases h
  | some x =>
    obtain ⟨m, r'⟩ := x
    obtain ⟨h1, h2⟩ := (numR_iff t m r').1 h
    simp only
    constructor
    · intro hh
      split at hh
      · cases hh
      · simp only [Option.some.injEq, Prod.mk.injEq] at hh
        obtain ⟨rfl, rfl⟩ := hh
        have e : (r'.take m).length = m := by simp; omega
        rw [e, List.append_assoc, List.take_append_drop]
        exact ⟨h1, h2⟩
    · rintro ⟨h3, h4⟩
      rw [(numR_iff t s.length (s ++ r)).2 ⟨by rw [h3, List.append_assoc], h4⟩] at h
      simp only [Option.some.injEq, Prod.mk.injEq] at h
      obtain ⟨rfl, rfl⟩ := h
      rw [if_neg (by simp), List.take_left, List.drop_left]
end Go.Proofs.YthpmmfapolcaiaaDoor

/- Package pack: the reader. -/
namespace Go.Proofs.YthpmmfapolcaiaaDoor
open Go Go.Eng Go.Proofs

abbrev rdC (t : Bytes) : Obj := .cells ⟨[Str t]⟩ T_pack_Reader (0, 0)
/-- What a read of a number answers, and what is left. -/
def numO (t : Bytes) : Nat × Int × Bytes := match numR t with
  | some (m, r) => (m, 0, r)
  | none => (0, 1, t)
theorem low7 (n c k : Nat) (hn : n < 2 ^ (7 * k)) (hc : c < 256) (hk : k ≤ 9) (h9 : k = 9 → c ≤ 1) :
    orI .u64 (n : Int) (IntKind.u64.wrap (andI .u8 (c : Int) 127 * 2 ^ (7 * k))) = ((n + c % 128 * 2 ^ (7 * k) : Nat) : Int) ∧ n + c % 128 * 2 ^ (7 * k) < 18446744073709551616 := by
  have e1 : andI .u8 (c : Int) 127 = ((c % 128 : Nat) : Int) := by
    have h := andU .u8 rfl c 127 hc (by decide)
    rw [show ((127 : Nat) : Int) = 127 from rfl] at h
    rw [h, show (127 : Nat) = 2 ^ 7 - 1 by rfl, Nat.and_two_pow_sub_one_eq_mod]
  have hb : n + c % 128 * 2 ^ (7 * k) < 18446744073709551616 := by
    have hm : c % 128 < 128 := Nat.mod_lt _ (by omega)
    by_cases h : k = 9
    · subst h
      have := h9 rfl
      have h1 : c % 128 ≤ 1 := by omega
      have h2 : c % 128 * 2 ^ (7 * 9) ≤ 1 * 2 ^ (7 * 9) := Nat.mul_le_mul_right _ h1
      omega
    · have h3 : 2 ^ (7 * k) ≤ 2 ^ (7 * 8) := Nat.pow_le_pow_right (by omega) (by omega)
      have h4 : c % 128 * 2 ^ (7 * k) ≤ 127 * 2 ^ (7 * k) := Nat.mul_le_mul_right _ (by omega)
      omega
  refine ⟨?_, hb⟩
  have e2 : ((c % 128 : Nat) : Int) * 2 ^ (7 * k) = ((c % 128 * 2 ^ (7 * k) : Nat) : Int) := by simp
  have e3 : c % 128 * 2 ^ (7 * k) % 2 ^ IntKind.u64.bits = c % 128 * 2 ^ (7 * k) := Nat.mod_eq_of_lt (show c % 128 * 2 ^ (7 * k) < 18446744073709551616 by omega)
  rw [e1, e2, wrapU .u64 rfl, e3, orU .u64 rfl _ _ (show n < 18446744073709551616 by omega) (show _ < 18446744073709551616 by omega), Nat.or_comm, or_add _ _ _ hn, Nat.add_comm]
def numJ (t : Bytes) (k n : Nat) : Prop := k ≤ 10 ∧ k ≤ t.length ∧ n < 2 ^ (7 * k) ∧ numS 0 t = match numS k (t.drop k) with
  | some (m, r) => some (n + m * 2 ^ (7 * k), r)
  | none => none
theorem numJ_fail {t : Bytes} {k n : Nat} (h : numJ t k n) (hf : numS k (t.drop k) = none) : numO t = (0, 1, t) := by
  unfold numO numR
  rw [h.2.2.2, hf]
theorem numS_stop {t : Bytes} {k : Nat} (hk : ¬ (k < 10 ∧ k < t.length)) : numS k (t.drop k) = none := by
  cases h : t.drop k with
  | nil => rfl
  | cons c u =>
    have : k < t.length := by
      have := congrArg List.length h
      simp at this; omega
    unfold numS
    rw [if_pos (by omega)]
theorem numS_at {t : Bytes} {k : Nat} (hk : k < t.length) : numS k (t.drop k) = if 9 < k ∨ (k = 9 ∧ 1 < t[k].toNat) ∨ (0 < k ∧ t[k].toNat = 0) then none
    else if t[k].toNat < 128 then some (t[k].toNat, t.drop (k + 1))
    else match numS (k + 1) (t.drop (k + 1)) with
      | some (m, r) => some (t[k].toNat % 128 + 128 * m, r)
      | none => none := by
  rw [List.drop_eq_getElem_cons hk, numS]
  all_goals rfl
theorem numJ_done {t : Bytes} {k n : Nat} (h : numJ t k n) (hk : k < t.length) (h1 : ¬ (9 < k ∨ (k = 9 ∧ 1 < t[k].toNat) ∨ (0 < k ∧ t[k].toNat = 0))) (h2 : t[k].toNat < 128) :
    numO t = (n + t[k].toNat % 128 * 2 ^ (7 * k), 0, t.drop (k + 1)) := by
  unfold numO numR
  rw [h.2.2.2, numS_at hk, if_neg h1, if_pos h2, Nat.mod_eq_of_lt h2]
theorem numJ_next {t : Bytes} {k n : Nat} (h : numJ t k n) (hk : k < t.length) (h1 : ¬ (9 < k ∨ (k = 9 ∧ 1 < t[k].toNat) ∨ (0 < k ∧ t[k].toNat = 0))) (h2 : ¬ t[k].toNat < 128) :
    numJ t (k + 1) (n + t[k].toNat % 128 * 2 ^ (7 * k)) := by
  obtain ⟨h3, h4, h5, h6⟩ := h
  refine ⟨by omega, by omega, ?_, ?_⟩
  · rw [show 7 * (k + 1) = 7 * k + 7 by omega, Nat.pow_add]
    have h4 : t[k].toNat % 128 * 2 ^ (7 * k) ≤ 127 * 2 ^ (7 * k) := Nat.mul_le_mul_right _ (by omega)
    generalize 2 ^ (7 * k) = P at *
    omega
  · rw [h6, numS_at hk, if_neg h1, if_neg h2]
    cases numS (k + 1) (t.drop (k + 1)) with
    | none => rfl
    | some x =>
      obtain ⟨m, r⟩ := x
      simp only [Option.some.injEq, Prod.mk.injEq, and_true]
      rw [show 7 * (k + 1) = 7 * k + 7 by omega, Nat.pow_add, Nat.add_mul, Nat.add_assoc]
      congr 2
      rw [show 2 ^ (7 * k) * 2 ^ 7 = 128 * 2 ^ (7 * k) by omega, Nat.mul_comm 128 m, Nat.mul_assoc]
theorem low7' (n c k : Nat) (hn : n < 2 ^ (7 * k)) (hc : c < 256) (hk : k ≤ 9) (h9 : k = 9 → c ≤ 1) :
    orI .u64 (n : Int) (IntKind.u64.wrap (IntKind.u64.wrap (andI .u8 (c : Int) 127) * 2 ^ min (7 * (k : Int)).toNat IntKind.u64.bits)) = ((n + c % 128 * 2 ^ (7 * k) : Nat) : Int) := by
  have h := (low7 n c k hn hc hk h9).1
  have e1 : andI .u8 (c : Int) 127 = ((c % 128 : Nat) : Int) := by
    have h := andU .u8 rfl c 127 hc (by decide)
    rw [show ((127 : Nat) : Int) = 127 from rfl] at h
    rw [h, show (127 : Nat) = 2 ^ 7 - 1 by rfl, Nat.and_two_pow_sub_one_eq_mod]
  have e2 : IntKind.u64.wrap (((c % 128 : Nat) : Nat) : Int) = ((c % 128 : Nat) : Int) := by
    rw [wrapU .u64 rfl]; congr 1; exact Nat.mod_eq_of_lt (by show _ < 18446744073709551616; omega)
  have e3 : min (7 * (k : Int)).toNat IntKind.u64.bits = 7 * k := by show min _ 64 = _; omega
  rw [e1] at h ⊢
  rw [e2, e3]; exact h
set_option maxHeartbeats 4000000 in
theorem RNum_spec {w : World} {b : Nat} {t : Bytes} (hh : Holds [(b, rdC t)] w) (ht : t.length ≤ 70368744177664) :
    Cl Tryd.prog f_pack_Reader_Num [ptr b] w fun v w' => v = .tuple ⟨[.int .u64 (numO t).1, .int .i64 (numO t).2.1]⟩ ∧ St w [b] [(b, rdC (numO t).2.2)] w' := by
  have hS : St w [b] [(b, rdC t)] w := St.enter hh
  refine en_pack_Reader_Num rfl ?_
  repeat (first | refine SemW.run tblOk ?_ | refine jA (by omega) ?_ | refine jB (by omega) ?_ | refine jC (by omega) ?_ | refine jD (by omega) ?_ | refine jE rfl ?_ | refine jF (by omega) ?_ | (refine jG ?_; first | with_reducible (first | refine jH ?_ | refine jI ?_ | refine jJ ?_ | refine jK ?_ | refine jL ?_) | refine jM (by omega) ?_ | refine jN (by omega) ?_ | with_reducible refine jM rfl ?_ | refine jM (by assumption) ?_ | refine jN (by assumption) ?_ | refine jM (by decide) ?_ | refine jN (by decide) ?_) | refine jF (ptr_ok tblOk rfl rfl) ?_ | refine jO (fun _ => by kernel_rfl) ?_ | refine jF (by decide) ?_)
  refine SemW.loop (fun x : Nat × Nat => [(0, ptr b), (4, .int .u64 x.2), (5, .int .i64 x.1)])
    (fun x w' => numJ t x.1 x.2 ∧ St w [b] [(b, rdC t)] w') (fun x => 10 - x.1) (0, 0)
    ⟨rfl, rfl, rfl, trivial⟩ ⟨⟨by omega, by omega, by simp, by simp only [List.drop_zero]; cases numS 0 t <;> simp⟩, hS⟩ ?_
  rintro ⟨k, n⟩ w1 ⟨hJ, hS⟩
  simp only at hJ hS ⊢
  have hkk := hJ.1
  have hkl := hJ.2.1
  by_cases hk : k < 10 ∧ k < t.length
  · obtain ⟨hk10, hkt⟩ := hk
    have hmin : ((k : Int) < min 10 (t.length : Int)) := by omega
    repeat (first | refine SemW.run tblOk ?_ | refine jA (by omega) ?_ | refine jB (by omega) ?_ | refine jC (by omega) ?_ | refine jD (by omega) ?_ | refine jE rfl ?_ | refine jF (by omega) ?_ | (refine jG ?_; first | with_reducible (first | refine jH ?_ | refine jI ?_ | refine jJ ?_ | refine jK ?_ | refine jL ?_) | refine jM (by omega) ?_ | refine jN (by omega) ?_ | with_reducible refine jM rfl ?_ | refine jM (by assumption) ?_ | refine jN (by assumption) ?_ | refine jM (by decide) ?_ | refine jN (by decide) ?_) | refine jF (ptr_ok tblOk rfl rfl) ?_ | refine jO (fun _ => by kernel_rfl) ?_ | refine jF (by decide) ?_ | refine hS.ld rfl ?_ | refine hS.ldn rfl ?_ | (refine hS.st rfl rfl ?_; intro _ hS))
    obtain ⟨c, hc⟩ : ∃ c, c = t.getD ((k : Int)).toNat 0 := ⟨_, rfl⟩
    have hct : c = t[k] := by rw [hc]; simp [hkt]
    rw [← hc]
    have hclt := c.toNat_lt
    by_cases h9 : k = 9
    · by_cases h1 : 1 < c.toNat
      · repeat (first | refine SemW.run tblOk ?_ | refine jA (by omega) ?_ | refine jB (by omega) ?_ | refine jC (by omega) ?_ | refine jD (by omega) ?_ | refine jE rfl ?_ | refine jF (by omega) ?_ | (refine jG ?_; first | with_reducible (first | refine jH ?_ | refine jI ?_ | refine jJ ?_ | refine jK ?_ | refine jL ?_) | refine jM (by omega) ?_ | refine jN (by omega) ?_ | with_reducible refine jM rfl ?_ | refine jM (by assumption) ?_ | refine jN (by assumption) ?_ | refine jM (by decide) ?_ | refine jN (by decide) ?_) | refine jF (ptr_ok tblOk rfl rfl) ?_ | refine jO (fun _ => by kernel_rfl) ?_ | refine jF (by decide) ?_ | refine hS.ld rfl ?_ | refine hS.ldn rfl ?_ | (refine hS.st rfl rfl ?_; intro _ hS))
        rw [numJ_fail hJ (by rw [numS_at hkt, if_pos (by rw [← hct]; omega)])]
        exact ⟨rfl, hS⟩
      · by_cases hz : c.toNat = 0
        · repeat (first | refine SemW.run tblOk ?_ | refine jA (by omega) ?_ | refine jB (by omega) ?_ | refine jC (by omega) ?_ | refine jD (by omega) ?_ | refine jE rfl ?_ | refine jF (by omega) ?_ | (refine jG ?_; first | with_reducible (first | refine jH ?_ | refine jI ?_ | refine jJ ?_ | refine jK ?_ | refine jL ?_) | refine jM (by omega) ?_ | refine jN (by omega) ?_ | with_reducible refine jM rfl ?_ | refine jM (by assumption) ?_ | refine jN (by assumption) ?_ | refine jM (by decide) ?_ | refine jN (by decide) ?_) | refine jF (ptr_ok tblOk rfl rfl) ?_ | refine jO (fun _ => by kernel_rfl) ?_ | refine jF (by decide) ?_ | refine hS.ld rfl ?_ | refine hS.ldn rfl ?_ | (refine hS.st rfl rfl ?_; intro _ hS))
          rw [numJ_fail hJ (by rw [numS_at hkt, if_pos (by rw [← hct]; omega)])]
          exact ⟨rfl, hS⟩
        · have hl7 := low7' n c.toNat k hJ.2.2.1 c.toNat_lt (by omega) (by omega)
          have hnb : ¬ (9 < k ∨ (k = 9 ∧ 1 < t[k].toNat) ∨ (0 < k ∧ t[k].toNat = 0)) := by rw [← hct]; omega
          have ek : ((k : Int) + 1).toNat = k + 1 := by omega
          by_cases h128 : c.toNat < 128
          · have hdn := numJ_done hJ hkt hnb (by rw [← hct]; exact h128)
            rw [← hct] at hdn
            repeat (first | refine SemW.run tblOk ?_ | refine jA (by omega) ?_ | refine jB (by omega) ?_ | refine jC (by omega) ?_ | refine jD (by omega) ?_ | refine jE rfl ?_ | refine jF (by omega) ?_ | (refine jG ?_; first | with_reducible (first | refine jH ?_ | refine jI ?_ | refine jJ ?_ | refine jK ?_ | refine jL ?_) | refine jM (by omega) ?_ | refine jN (by omega) ?_ | with_reducible refine jM rfl ?_ | refine jM (by assumption) ?_ | refine jN (by assumption) ?_ | refine jM (by decide) ?_ | refine jN (by decide) ?_) | refine jF (ptr_ok tblOk rfl rfl) ?_ | refine jO (fun _ => by kernel_rfl) ?_ | refine jF (by decide) ?_ | refine hS.ld rfl ?_ | refine hS.ldn rfl ?_ | (refine hS.st rfl rfl ?_; intro _ hS))
            rw [hdn]
            rw [ek] at hS
            exact ⟨congrArg (fun z => Value.tuple ⟨[.int .u64 z, .int .i64 0]⟩) hl7, hS⟩
          · have hnx := numJ_next hJ hkt hnb (by rw [← hct]; exact h128)
            rw [← hct] at hnx
            first
            | (exfalso; omega)
            | (repeat (first | refine SemW.run tblOk ?_ | refine jA (by omega) ?_ | refine jB (by omega) ?_ | refine jC (by omega) ?_ | refine jD (by omega) ?_ | refine jE rfl ?_ | refine jF (by omega) ?_ | (refine jG ?_; first | with_reducible (first | refine jH ?_ | refine jI ?_ | refine jJ ?_ | refine jK ?_ | refine jL ?_) | refine jM (by omega) ?_ | refine jN (by omega) ?_ | with_reducible refine jM rfl ?_ | refine jM (by assumption) ?_ | refine jN (by assumption) ?_ | refine jM (by decide) ?_ | refine jN (by decide) ?_) | refine jF (ptr_ok tblOk rfl rfl) ?_ | refine jO (fun _ => by kernel_rfl) ?_ | refine jF (by decide) ?_ | refine hS.ld rfl ?_ | refine hS.ldn rfl ?_ | (refine hS.st rfl rfl ?_; intro _ hS))
               exact ⟨(k + 1, n + c.toNat % 128 * 2 ^ (7 * k)), ⟨rfl, congrArg (Value.int .u64) hl7, rfl, trivial⟩, ⟨hnx, hS⟩, by simp only; omega⟩)
    · by_cases h0 : 0 < k
      · by_cases hz : c.toNat = 0
        · repeat (first | refine SemW.run tblOk ?_ | refine jA (by omega) ?_ | refine jB (by omega) ?_ | refine jC (by omega) ?_ | refine jD (by omega) ?_ | refine jE rfl ?_ | refine jF (by omega) ?_ | (refine jG ?_; first | with_reducible (first | refine jH ?_ | refine jI ?_ | refine jJ ?_ | refine jK ?_ | refine jL ?_) | refine jM (by omega) ?_ | refine jN (by omega) ?_ | with_reducible refine jM rfl ?_ | refine jM (by assumption) ?_ | refine jN (by assumption) ?_ | refine jM (by decide) ?_ | refine jN (by decide) ?_) | refine jF (ptr_ok tblOk rfl rfl) ?_ | refine jO (fun _ => by kernel_rfl) ?_ | refine jF (by decide) ?_ | refine hS.ld rfl ?_ | refine hS.ldn rfl ?_ | (refine hS.st rfl rfl ?_; intro _ hS))
          rw [numJ_fail hJ (by rw [numS_at hkt, if_pos (by rw [← hct]; omega)])]
          exact ⟨rfl, hS⟩
        · have hl7 := low7' n c.toNat k hJ.2.2.1 c.toNat_lt (by omega) (by omega)
          have hnb : ¬ (9 < k ∨ (k = 9 ∧ 1 < t[k].toNat) ∨ (0 < k ∧ t[k].toNat = 0)) := by rw [← hct]; omega
          have ek : ((k : Int) + 1).toNat = k + 1 := by omega
          by_cases h128 : c.toNat < 128
          · have hdn := numJ_done hJ hkt hnb (by rw [← hct]; exact h128)
            rw [← hct] at hdn
            repeat (first | refine SemW.run tblOk ?_ | refine jA (by omega) ?_ | refine jB (by omega) ?_ | refine jC (by omega) ?_ | refine jD (by omega) ?_ | refine jE rfl ?_ | refine jF (by omega) ?_ | (refine jG ?_; first | with_reducible (first | refine jH ?_ | refine jI ?_ | refine jJ ?_ | refine jK ?_ | refine jL ?_) | refine jM (by omega) ?_ | refine jN (by omega) ?_ | with_reducible refine jM rfl ?_ | refine jM (by assumption) ?_ | refine jN (by assumption) ?_ | refine jM (by decide) ?_ | refine jN (by decide) ?_) | refine jF (ptr_ok tblOk rfl rfl) ?_ | refine jO (fun _ => by kernel_rfl) ?_ | refine jF (by decide) ?_ | refine hS.ld rfl ?_ | refine hS.ldn rfl ?_ | (refine hS.st rfl rfl ?_; intro _ hS))
            rw [hdn]
            rw [ek] at hS
            exact ⟨congrArg (fun z => Value.tuple ⟨[.int .u64 z, .int .i64 0]⟩) hl7, hS⟩
          · have hnx := numJ_next hJ hkt hnb (by rw [← hct]; exact h128)
            rw [← hct] at hnx
            first
            | (exfalso; omega)
            | (repeat (first | refine SemW.run tblOk ?_ | refine jA (by omega) ?_ | refine jB (by omega) ?_ | refine jC (by omega) ?_ | refine jD (by omega) ?_ | refine jE rfl ?_ | refine jF (by omega) ?_ | (refine jG ?_; first | with_reducible (first | refine jH ?_ | refine jI ?_ | refine jJ ?_ | refine jK ?_ | refine jL ?_) | refine jM (by omega) ?_ | refine jN (by omega) ?_ | with_reducible refine jM rfl ?_ | refine jM (by assumption) ?_ | refine jN (by assumption) ?_ | refine jM (by decide) ?_ | refine jN (by decide) ?_) | refine jF (ptr_ok tblOk rfl rfl) ?_ | refine jO (fun _ => by kernel_rfl) ?_ | refine jF (by decide) ?_ | refine hS.ld rfl ?_ | refine hS.ldn rfl ?_ | (refine hS.st rfl rfl ?_; intro _ hS))
               exact ⟨(k + 1, n + c.toNat % 128 * 2 ^ (7 * k)), ⟨rfl, congrArg (Value.int .u64) hl7, rfl, trivial⟩, ⟨hnx, hS⟩, by simp only; omega⟩)
      · have hl7 := low7' n c.toNat k hJ.2.2.1 c.toNat_lt (by omega) (by omega)
        have hnb : ¬ (9 < k ∨ (k = 9 ∧ 1 < t[k].toNat) ∨ (0 < k ∧ t[k].toNat = 0)) := by rw [← hct]; omega
        have ek : ((k : Int) + 1).toNat = k + 1 := by omega
        by_cases h128 : c.toNat < 128
        · have hdn := numJ_done hJ hkt hnb (by rw [← hct]; exact h128)
          rw [← hct] at hdn
          repeat (first | refine SemW.run tblOk ?_ | refine jA (by omega) ?_ | refine jB (by omega) ?_ | refine jC (by omega) ?_ | refine jD (by omega) ?_ | refine jE rfl ?_ | refine jF (by omega) ?_ | (refine jG ?_; first | with_reducible (first | refine jH ?_ | refine jI ?_ | refine jJ ?_ | refine jK ?_ | refine jL ?_) | refine jM (by omega) ?_ | refine jN (by omega) ?_ | with_reducible refine jM rfl ?_ | refine jM (by assumption) ?_ | refine jN (by assumption) ?_ | refine jM (by decide) ?_ | refine jN (by decide) ?_) | refine jF (ptr_ok tblOk rfl rfl) ?_ | refine jO (fun _ => by kernel_rfl) ?_ | refine jF (by decide) ?_ | refine hS.ld rfl ?_ | refine hS.ldn rfl ?_ | (refine hS.st rfl rfl ?_; intro _ hS))
          rw [hdn]
          rw [ek] at hS
          exact ⟨congrArg (fun z => Value.tuple ⟨[.int .u64 z, .int .i64 0]⟩) hl7, hS⟩
        · have hnx := numJ_next hJ hkt hnb (by rw [← hct]; exact h128)
          rw [← hct] at hnx
          first
          | (exfalso; omega)
          | (repeat (first | refine SemW.run tblOk ?_ | refine jA (by omega) ?_ | refine jB (by omega) ?_ | refine jC (by omega) ?_ | refine jD (by omega) ?_ | refine jE rfl ?_ | refine jF (by omega) ?_ | (refine jG ?_; first | with_reducible (first | refine jH ?_ | refine jI ?_ | refine jJ ?_ | refine jK ?_ | refine jL ?_) | refine jM (by omega) ?_ | refine jN (by omega) ?_ | with_reducible refine jM rfl ?_ | refine jM (by assumption) ?_ | refine jN (by assumption) ?_ | refine jM (by decide) ?_ | refine jN (by decide) ?_) | refine jF (ptr_ok tblOk rfl rfl) ?_ | refine jO (fun _ => by kernel_rfl) ?_ | refine jF (by decide) ?_ | refine hS.ld rfl ?_ | refine hS.ldn rfl ?_ | (refine hS.st rfl rfl ?_; intro _ hS))
             exact ⟨(k + 1, n + c.toNat % 128 * 2 ^ (7 * k)), ⟨rfl, congrArg (Value.int .u64) hl7, rfl, trivial⟩, ⟨hnx, hS⟩, by simp only; omega⟩)
  · have hmin : ¬ ((k : Int) < min 10 (t.length : Int)) := by omega
    repeat (first | refine SemW.run tblOk ?_ | refine jA (by omega) ?_ | refine jB (by omega) ?_ | refine jC (by omega) ?_ | refine jD (by omega) ?_ | refine jE rfl ?_ | refine jF (by omega) ?_ | (refine jG ?_; first | with_reducible (first | refine jH ?_ | refine jI ?_ | refine jJ ?_ | refine jK ?_ | refine jL ?_) | refine jM (by omega) ?_ | refine jN (by omega) ?_ | with_reducible refine jM rfl ?_ | refine jM (by assumption) ?_ | refine jN (by assumption) ?_ | refine jM (by decide) ?_ | refine jN (by decide) ?_) | refine jF (ptr_ok tblOk rfl rfl) ?_ | refine jO (fun _ => by kernel_rfl) ?_ | refine jF (by decide) ?_ | refine hS.ld rfl ?_ | refine hS.ldn rfl ?_ | (refine hS.st rfl rfl ?_; intro _ hS))
    rw [numJ_fail hJ (numS_stop hk)]
    exact ⟨rfl, hS⟩
def intO (t : Bytes) : Int × Int × Bytes := (unzig (numO t).1, (numO t).2)
theorem numO_lt (t : Bytes) : (numO t).1 < 18446744073709551616 := by
  unfold numO
  cases h : numR t with
  | none => show 0 < 18446744073709551616; omega
  | some x => obtain ⟨m, r⟩ := x; exact ((numR_iff t m r).1 h).2
theorem numO_len (t : Bytes) : (numO t).2.2.length ≤ t.length := by
  unfold numO
  cases h : numR t with
  | none => exact Nat.le_refl _
  | some x =>
    obtain ⟨m, r⟩ := x
    have := congrArg List.length ((numR_iff t m r).1 h).1
    simp only [List.length_append] at this
    show r.length ≤ t.length
    omega
theorem unz_eq (u : Nat) (h : u < 18446744073709551616) : xorI .i64 ((u / 2 : Nat) : Int) (0 - ((u % 2 : Nat) : Int)) = unzig u := by
  show IntKind.i64.wrap (((BitVec.ofInt 64 ((u / 2 : Nat) : Int) ^^^ BitVec.ofInt 64 (0 - ((u % 2 : Nat) : Int))).toNat : Nat) : Int) = _
  have e1 : BitVec.ofInt 64 ((u / 2 : Nat) : Int) = BitVec.ofNat 64 (u / 2) := BitVec.ofInt_natCast ..
  unfold unzig
  by_cases h2 : u % 2 = 0
  · rw [if_pos h2, h2]
    have e2 : BitVec.ofInt 64 (0 - ((0 : Nat) : Int)) = 0#64 := by decide
    rw [e1, e2, BitVec.xor_zero, BitVec.toNat_ofNat, Nat.mod_eq_of_lt (by omega)]
    unfold IntKind.wrap; simp only [IntKind.signed, IntKind.bits]; simp; omega
  · rw [if_neg h2, show u % 2 = 1 by omega]
    have e2 : BitVec.ofInt 64 (0 - ((1 : Nat) : Int)) = BitVec.allOnes 64 := by decide
    rw [e1, e2, BitVec.xor_allOnes, BitVec.toNat_not, BitVec.toNat_ofNat, Nat.mod_eq_of_lt (by omega)]
    unfold IntKind.wrap; simp only [IntKind.signed, IntKind.bits]; simp; omega
set_option maxHeartbeats 1000000 in
theorem RInt_spec {w : World} {b : Nat} {t : Bytes} (hh : Holds [(b, rdC t)] w) (ht : t.length ≤ 70368744177664) :
    Cl Tryd.prog f_pack_Reader_Int [ptr b] w fun v w' => v = .tuple ⟨[.int .i64 (intO t).1, .int .i64 (intO t).2.1]⟩ ∧ St w [b] [(b, rdC (intO t).2.2)] w' := by
  refine en_pack_Reader_Int rfl ?_
  repeat (first | refine SemW.run tblOk ?_ | refine jA (by omega) ?_ | refine jB (by omega) ?_ | refine jC (by omega) ?_ | refine jD (by omega) ?_ | refine jE rfl ?_ | refine jF (by omega) ?_ | (refine jG ?_; first | with_reducible (first | refine jH ?_ | refine jI ?_ | refine jJ ?_ | refine jK ?_ | refine jL ?_) | refine jM (by omega) ?_ | refine jN (by omega) ?_ | with_reducible refine jM rfl ?_ | refine jM (by assumption) ?_ | refine jN (by assumption) ?_ | refine jM (by decide) ?_ | refine jN (by decide) ?_) | refine jF (ptr_ok tblOk rfl rfl) ?_ | refine jO (fun _ => by kernel_rfl) ?_ | refine jF (by decide) ?_)
  refine Cl.mono (RNum_spec hh ht) ?_
  rintro _ w1 ⟨rfl, hS⟩
  unfold intO
  have hlt := numO_lt t
  generalize numO t = x at hS hlt ⊢
  obtain ⟨u, e, r⟩ := x
  simp only at hS hlt ⊢
  have e1 : (u : Int).fdiv (2 ^ min (Int.toNat 1) IntKind.u64.bits) = ((u / 2 : Nat) : Int) := by
    show (u : Int).fdiv (2 ^ 1) = _
    rw [fdivP]
  have e2 : andI .u64 (u : Int) 1 = ((u % 2 : Nat) : Int) := by
    have h := andU .u64 rfl u 1 hlt (by decide)
    rw [show ((1 : Nat) : Int) = 1 from rfl] at h
    rw [h, show (1 : Nat) = 2 ^ 1 - 1 by rfl, Nat.and_two_pow_sub_one_eq_mod]
  have hz := unz_eq u hlt
  repeat (first | refine SemW.run tblOk ?_ | refine jA (by omega) ?_ | refine jB (by omega) ?_ | refine jC (by omega) ?_ | refine jD (by omega) ?_ | refine jE rfl ?_ | refine jF (by omega) ?_ | (refine jG ?_; first | with_reducible (first | refine jH ?_ | refine jI ?_ | refine jJ ?_ | refine jK ?_ | refine jL ?_) | refine jM (by omega) ?_ | refine jN (by omega) ?_ | with_reducible refine jM rfl ?_ | refine jM (by assumption) ?_ | refine jN (by assumption) ?_ | refine jM (by decide) ?_ | refine jN (by decide) ?_) | refine jF (ptr_ok tblOk rfl rfl) ?_ | refine jO (fun _ => by kernel_rfl) ?_ | refine jF (by decide) ?_)
  rw [e1]
  repeat (first | refine SemW.run tblOk ?_ | refine jA (by omega) ?_ | refine jB (by omega) ?_ | refine jC (by omega) ?_ | refine jD (by omega) ?_ | refine jE rfl ?_ | refine jF (by omega) ?_ | (refine jG ?_; first | with_reducible (first | refine jH ?_ | refine jI ?_ | refine jJ ?_ | refine jK ?_ | refine jL ?_) | refine jM (by omega) ?_ | refine jN (by omega) ?_ | with_reducible refine jM rfl ?_ | refine jM (by assumption) ?_ | refine jN (by assumption) ?_ | refine jM (by decide) ?_ | refine jN (by decide) ?_) | refine jF (ptr_ok tblOk rfl rfl) ?_ | refine jO (fun _ => by kernel_rfl) ?_ | refine jF (by decide) ?_)
  rw [e2]
  repeat (first | refine SemW.run tblOk ?_ | refine jA (by omega) ?_ | refine jB (by omega) ?_ | refine jC (by omega) ?_ | refine jD (by omega) ?_ | refine jE rfl ?_ | refine jF (by omega) ?_ | (refine jG ?_; first | with_reducible (first | refine jH ?_ | refine jI ?_ | refine jJ ?_ | refine jK ?_ | refine jL ?_) | refine jM (by omega) ?_ | refine jN (by omega) ?_ | with_reducible refine jM rfl ?_ | refine jM (by assumption) ?_ | refine jN (by assumption) ?_ | refine jM (by decide) ?_ | refine jN (by decide) ?_) | refine jF (ptr_ok tblOk rfl rfl) ?_ | refine jO (fun _ => by kernel_rfl) ?_ | refine jF (by decide) ?_)
  exact ⟨congrArg (fun z => Value.tuple ⟨[.int .i64 z, .int .i64 e]⟩) hz, hS⟩
theorem RDone_spec {w : World} {b : Nat} {t : Bytes} (hh : Holds [(b, rdC t)] w) :
    Cl Tryd.prog f_pack_Reader_Done [ptr b] w fun v w' => v = .bool (decide (t = [])) ∧ St w [] [] w' := by
  have hS : St w [b] [(b, rdC t)] w := St.enter hh
  refine en_pack_Reader_Done rfl ?_
  repeat (first | refine SemW.run tblOk ?_ | refine jA (by omega) ?_ | refine jB (by omega) ?_ | refine jC (by omega) ?_ | refine jD (by omega) ?_ | refine jE rfl ?_ | refine jF (by omega) ?_ | (refine jG ?_; first | with_reducible (first | refine jH ?_ | refine jI ?_ | refine jJ ?_ | refine jK ?_ | refine jL ?_) | refine jM (by omega) ?_ | refine jN (by omega) ?_ | with_reducible refine jM rfl ?_ | refine jM (by assumption) ?_ | refine jN (by assumption) ?_ | refine jM (by decide) ?_ | refine jN (by decide) ?_) | refine jF (ptr_ok tblOk rfl rfl) ?_ | refine jO (fun _ => by kernel_rfl) ?_ | refine jF (by decide) ?_ | refine hS.ld rfl ?_ | refine hS.ldn rfl ?_ | (refine hS.st rfl rfl ?_; intro _ hS))
  exact ⟨rfl, St.start w⟩
theorem PRead_spec {w : World} {t : Bytes} : Cl Tryd.prog f_pack_Read [Str t] w fun v w' => ∃ b, v = ptr b ∧ St w [] [(b, rdC t)] w' := by
  have hS := St.start w
  refine en_pack_Read rfl ?_
  repeat (first | refine SemW.run tblOk ?_ | refine jA (by omega) ?_ | refine jB (by omega) ?_ | refine jC (by omega) ?_ | refine jD (by omega) ?_ | refine jE rfl ?_ | refine jF (by omega) ?_ | (refine jG ?_; first | with_reducible (first | refine jH ?_ | refine jI ?_ | refine jJ ?_ | refine jK ?_ | refine jL ?_) | refine jM (by omega) ?_ | refine jN (by omega) ?_ | with_reducible refine jM rfl ?_ | refine jM (by assumption) ?_ | refine jN (by assumption) ?_ | refine jM (by decide) ?_ | refine jN (by decide) ?_) | refine jF (ptr_ok tblOk rfl rfl) ?_ | refine jO (fun _ => by kernel_rfl) ?_ | refine jF (by decide) ?_)
  refine hS.al ?_
  intro b w1 _ hS
  repeat (first | refine SemW.run tblOk ?_ | refine jA (by omega) ?_ | refine jB (by omega) ?_ | refine jC (by omega) ?_ | refine jD (by omega) ?_ | refine jE rfl ?_ | refine jF (by omega) ?_ | (refine jG ?_; first | with_reducible (first | refine jH ?_ | refine jI ?_ | refine jJ ?_ | refine jK ?_ | refine jL ?_) | refine jM (by omega) ?_ | refine jN (by omega) ?_ | with_reducible refine jM rfl ?_ | refine jM (by assumption) ?_ | refine jN (by assumption) ?_ | refine jM (by decide) ?_ | refine jN (by decide) ?_) | refine jF (ptr_ok tblOk rfl rfl) ?_ | refine jO (fun _ => by kernel_rfl) ?_ | refine jF (by decide) ?_)
  exact ⟨b, rfl, hS⟩
end Go.Proofs.YthpmmfapolcaiaaDoor

/- Plain: reading numbers one behind the other, with a mark that it failed. -/
namespace Go.Proofs.YthpmmfapolcaiaaDoor
open Go Go.Eng
theorem zig_ok {z : Int} (h : i64ok z) : zig z < 18446744073709551616 := by
  unfold i64ok at h; unfold zig; split <;> omega
theorem ok_zig {z : Int} (h : zig z < 18446744073709551616) : i64ok z := by
  unfold zig at h; unfold i64ok; split at h <;> omega
theorem numO_app (m : Nat) (r : Bytes) (h : m < 18446744073709551616) : numO (numB m ++ r) = (m, 0, r) := by
  unfold numO; rw [(numR_iff _ m r).2 ⟨rfl, h⟩]
theorem intO_app (z : Int) (r : Bytes) (h : i64ok z) : intO (intB z ++ r) = (z, 0, r) := by
  unfold intO intB
  rw [numO_app _ _ (zig_ok h), unzig_zig]
theorem numO_ok {t : Bytes} (h : (numO t).2.1 = 0) : t = numB (numO t).1 ++ (numO t).2.2 := by
  unfold numO at h ⊢
  cases e : numR t with
  | none => rw [e] at h; cases h
  | some x => obtain ⟨m, r⟩ := x; exact ((numR_iff t m r).1 e).1
theorem numO_err (t : Bytes) : (numO t).2.1 = 0 ∨ (numO t).2.1 = 1 := by
  unfold numO
  cases numR t with
  | none => exact .inr rfl
  | some x => exact .inl rfl
theorem intO_ok {t : Bytes} (h : (intO t).2.1 = 0) : t = intB (intO t).1 ++ (intO t).2.2 ∧ i64ok (intO t).1 := by
  have h1 := numO_ok h
  have h2 := numO_lt t
  unfold intO intB
  simp only
  rw [zig_unzig]
  exact ⟨h1, ok_zig (by rw [zig_unzig]; exact h2)⟩
theorem intO_err (t : Bytes) : (intO t).2.1 = 0 ∨ (intO t).2.1 = 1 := numO_err t
theorem intO_len (t : Bytes) : (intO t).2.2.length ≤ t.length := numO_len t
theorem intO_len' {t : Bytes} (h : (intO t).2.1 = 0) : (intO t).2.2.length + 1 ≤ t.length := by
  have h1 := congrArg List.length (intO_ok h).1
  have h2 := numB_pos (zig (intO t).1)
  rw [List.length_append] at h1
  unfold intB at h1; omega
/-- What a reader knows: what is left, whether it failed. -/
structure RB where
  t : Bytes
  bad : Bool
def rbInt (s : RB) : Int × RB := ((intO s.t).1, ⟨(intO s.t).2.2, s.bad || decide ((intO s.t).2.1 ≠ 0)⟩)
def rbNum (s : RB) : Nat × RB := ((numO s.t).1, ⟨(numO s.t).2.2, s.bad || decide ((numO s.t).2.1 ≠ 0)⟩)
def rdI : Nat → RB × List Int → RB × List Int
  | 0, x => x
  | n + 1, (s, l) => if s.bad = true then (s, l) else rdI n ((rbInt s).2, l ++ [(rbInt s).1])
theorem rbInt_good {s : RB} (h : (rbInt s).2.bad = false) : s.bad = false ∧ s.t = intB (rbInt s).1 ++ (rbInt s).2.t ∧ i64ok (rbInt s).1 := by
  unfold rbInt at h ⊢
  simp only [Bool.or_eq_false_iff, decide_eq_false_iff_not, Decidable.not_not] at h
  exact ⟨h.1, (intO_ok h.2).1, (intO_ok h.2).2⟩
theorem rbNum_good {s : RB} (h : (rbNum s).2.bad = false) : s.bad = false ∧ s.t = numB (rbNum s).1 ++ (rbNum s).2.t := by
  unfold rbNum at h ⊢
  simp only [Bool.or_eq_false_iff, decide_eq_false_iff_not, Decidable.not_not] at h
  exact ⟨h.1, numO_ok h.2⟩
theorem rbInt_app (z : Int) (r : Bytes) (h : i64ok z) : rbInt ⟨intB z ++ r, false⟩ = (z, ⟨r, false⟩) := by
  unfold rbInt; simp only [intO_app z r h]; rfl
theorem rbNum_app (m : Nat) (r : Bytes) (h : m < 18446744073709551616) : rbNum ⟨numB m ++ r, false⟩ = (m, ⟨r, false⟩) := by
  unfold rbNum; simp only [numO_app m r h]; rfl
theorem rdI_bad : ∀ (n : Nat) (s : RB) (l : List Int), (rdI n (s, l)).1.bad = false → s.bad = false
  | 0, s, l, h => h
  | n + 1, s, l, h => by
    cases hb : s.bad with
    | false => rfl
    | true => unfold rdI at h; rw [if_pos hb] at h; rw [hb] at h; exact h
theorem rdI_good : ∀ (n : Nat) (s : RB) (l : List Int), (rdI n (s, l)).1.bad = false → ∃ m, m.length = n ∧ (rdI n (s, l)).2 = l ++ m ∧ s.t = intsB m ++ (rdI n (s, l)).1.t ∧ ∀ z ∈ m, i64ok z
  | 0, s, l, h => ⟨[], rfl, (List.append_nil l).symm, rfl, by simp⟩
  | n + 1, s, l, h => by
    have hb := rdI_bad (n + 1) s l h
    unfold rdI at h ⊢
    rw [if_neg (by rw [hb]; nofun)] at h ⊢
    obtain ⟨m, h1, h2, h3, h4⟩ := rdI_good n _ _ h
    have hb2 := rdI_bad n _ _ h
    obtain ⟨-, e1, r1⟩ := rbInt_good hb2
    refine ⟨(rbInt s).1 :: m, by simp [h1], by rw [h2]; simp, ?_, ?_⟩
    · conv => lhs; rw [e1]
      rw [h3]
      simp only [intsB, List.map_cons, List.flatten_cons, List.append_assoc]
    · intro f hf
      rcases List.mem_cons.1 hf with rfl | hf
      · exact r1
      · exact h4 f hf
theorem rdI_app : ∀ (m : List Int) (r : Bytes) (l : List Int), (∀ z ∈ m, i64ok z) → rdI m.length (⟨intsB m ++ r, false⟩, l) = (⟨r, false⟩, l ++ m)
  | [], r, l, _ => by simp [rdI, intsB]
  | f :: m, r, l, h => by
    have hf := h f (by simp)
    rw [List.length_cons]
    unfold rdI
    rw [if_neg nofun]
    have e : intsB (f :: m) ++ r = intB f ++ (intsB m ++ r) := by simp [intsB]
    rw [e]
    simp only [rbInt_app _ _ hf]
    rw [rdI_app m r _ fun g hg => h g (by simp [hg])]
    simp
end Go.Proofs.YthpmmfapolcaiaaDoor

/- Package pack: the reader's texts. -/
namespace Go.Proofs.YthpmmfapolcaiaaDoor
open Go Go.Eng Go.Proofs
/-- What a read of a text answers, and what is left. -/
def textO (t : Bytes) : Bytes × Int × Bytes := match textR t with
  | some (s, r) => (s, 0, r)
  | none => ([], 1, t)
theorem textO_len (t : Bytes) : (textO t).1.length + (textO t).2.2.length ≤ t.length := by
  unfold textO
  cases h : textR t with
  | none => show 0 + t.length ≤ t.length; omega
  | some x =>
    obtain ⟨s, r⟩ := x
    have := congrArg List.length ((textR_iff t s r).1 h).1
    simp only [textB, List.length_append] at this
    show s.length + r.length ≤ t.length
    omega
set_option maxHeartbeats 1000000 in
theorem RText_spec {w : World} {b : Nat} {t : Bytes} (hh : Holds [(b, rdC t)] w) (ht : t.length ≤ 70368744177664) :
    Cl Tryd.prog f_pack_Reader_Text [ptr b] w fun v w' => v = .tuple ⟨[Str (textO t).1, .int .i64 (textO t).2.1]⟩ ∧ St w [b] [(b, rdC (textO t).2.2)] w' := by
  have hS : St w [b] [(b, rdC t)] w := St.enter hh
  refine en_pack_Reader_Text rfl ?_
  repeat (first | refine SemW.run tblOk ?_ | refine jA (by omega) ?_ | refine jB (by omega) ?_ | refine jC (by omega) ?_ | refine jD (by omega) ?_ | refine jE rfl ?_ | refine jF (by omega) ?_ | (refine jG ?_; first | with_reducible (first | refine jH ?_ | refine jI ?_ | refine jJ ?_ | refine jK ?_ | refine jL ?_) | refine jM (by omega) ?_ | refine jN (by omega) ?_ | with_reducible refine jM rfl ?_ | refine jM (by assumption) ?_ | refine jN (by assumption) ?_ | refine jM (by decide) ?_ | refine jN (by decide) ?_) | refine jF (ptr_ok tblOk rfl rfl) ?_ | refine jO (fun _ => by kernel_rfl) ?_ | refine jF (by decide) ?_ | refine hS.ld rfl ?_ | refine hS.ldn rfl ?_ | (refine hS.st rfl rfl ?_; intro _ hS))
  refine Cl.mono (RNum_spec hh ht) ?_
  rintro _ w1 ⟨rfl, hS1⟩
  have hlt := numO_lt t
  have hln := numO_len t
  unfold textO textR
  cases h : numR t with
  | none =>
    have hn : numO t = (0, 1, t) := by unfold numO; rw [h]
    rw [hn] at hS1 ⊢
    simp only at hS1 ⊢
    have hS := hS1
    repeat (first | refine SemW.run tblOk ?_ | refine jA (by omega) ?_ | refine jB (by omega) ?_ | refine jC (by omega) ?_ | refine jD (by omega) ?_ | refine jE rfl ?_ | refine jF (by omega) ?_ | (refine jG ?_; first | with_reducible (first | refine jH ?_ | refine jI ?_ | refine jJ ?_ | refine jK ?_ | refine jL ?_) | refine jM (by omega) ?_ | refine jN (by omega) ?_ | with_reducible refine jM rfl ?_ | refine jM (by assumption) ?_ | refine jN (by assumption) ?_ | refine jM (by decide) ?_ | refine jN (by decide) ?_) | refine jF (ptr_ok tblOk rfl rfl) ?_ | refine jO (fun _ => by kernel_rfl) ?_ | refine jF (by decide) ?_ | refine hS.ld rfl ?_ | refine hS.ldn rfl ?_ | (refine hS.st rfl rfl ?_; intro _ hS))
    exact ⟨rfl, hS⟩
  | some x =>
    obtain ⟨m, r⟩ := x
    have hn : numO t = (m, 0, r) := by unfold numO; rw [h]
    rw [hn] at hS1 hlt hln ⊢
    simp only at hS1 hlt hln ⊢
    have hS := hS1
    by_cases hm : r.length < m
    · rw [if_pos hm]
      repeat (first | refine SemW.run tblOk ?_ | refine jA (by omega) ?_ | refine jB (by omega) ?_ | refine jC (by omega) ?_ | refine jD (by omega) ?_ | refine jE rfl ?_ | refine jF (by omega) ?_ | (refine jG ?_; first | with_reducible (first | refine jH ?_ | refine jI ?_ | refine jJ ?_ | refine jK ?_ | refine jL ?_) | refine jM (by omega) ?_ | refine jN (by omega) ?_ | with_reducible refine jM rfl ?_ | refine jM (by assumption) ?_ | refine jN (by assumption) ?_ | refine jM (by decide) ?_ | refine jN (by decide) ?_) | refine jF (ptr_ok tblOk rfl rfl) ?_ | refine jO (fun _ => by kernel_rfl) ?_ | refine jF (by decide) ?_ | refine hS.ld rfl ?_ | refine hS.ldn rfl ?_ | (refine hS.st rfl rfl ?_; intro _ hS))
      exact ⟨rfl, hS⟩
    · rw [if_neg hm]
      repeat (first | refine SemW.run tblOk ?_ | refine jA (by omega) ?_ | refine jB (by omega) ?_ | refine jC (by omega) ?_ | refine jD (by omega) ?_ | refine jE rfl ?_ | refine jF (by omega) ?_ | (refine jG ?_; first | with_reducible (first | refine jH ?_ | refine jI ?_ | refine jJ ?_ | refine jK ?_ | refine jL ?_) | refine jM (by omega) ?_ | refine jN (by omega) ?_ | with_reducible refine jM rfl ?_ | refine jM (by assumption) ?_ | refine jN (by assumption) ?_ | refine jM (by decide) ?_ | refine jN (by decide) ?_) | refine jF (ptr_ok tblOk rfl rfl) ?_ | refine jO (fun _ => by kernel_rfl) ?_ | refine jF (by decide) ?_ | refine hS.ld rfl ?_ | refine hS.ldn rfl ?_ | (refine hS.st rfl rfl ?_; intro _ hS))
      exact ⟨rfl, hS⟩
end Go.Proofs.YthpmmfapolcaiaaDoor
