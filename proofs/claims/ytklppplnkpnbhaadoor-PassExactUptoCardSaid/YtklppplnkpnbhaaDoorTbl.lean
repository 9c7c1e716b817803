/- MADE BY PROGRAM (gen.py) out of this seat's translation: the types' table with its proof, the functions' and types' numbers under names, each function's way in. No statement of the seat is here. -/
import Derived.Test.YtklppplnkpnbhaaDoorProg
import Derived.Test.YtklppplnkpnbhaaDoorVec
namespace Go.Proofs.YtklppplnkpnbhaaDoor
open Go Go.Eng Go.Proofs

def tbl : Tbl := [
  (2, ⟨.int .i64, 1, 8, .int .i64 0⟩),
  (3, ⟨.int .i64, 1, 8, .int .i64 0⟩),
  (4, ⟨.bool, 1, 1, .bool false⟩),
  (5, ⟨.int .u8, 1, 1, .int .u8 0⟩),
  (9, ⟨.str, 1, 16, .string ⟨⟨[]⟩⟩⟩),
  (21, ⟨.int .i32, 1, 4, .int .i32 0⟩),
  (23, ⟨.struct [(0, 1), (1, 1)], 2, 16, .agg ⟨[.int .i64 0, .int .u8 0]⟩⟩),
  (25, ⟨.struct [(0, 1), (1, 1), (2, 1), (3, 2)], 5, 40, .agg ⟨[.int .i64 0, .int .i64 0, .int .i64 0, .int .i64 0, .int .u8 0]⟩⟩),
  (27, ⟨.int .i64, 1, 8, .int .i64 0⟩),
  (35, ⟨.slice 5 1, 1, 24, .slice none 0 0⟩),
  (41, ⟨.ptr 45, 1, 8, .pointer none⟩),
  (42, ⟨.ptr 64, 1, 8, .pointer none⟩),
  (45, ⟨.struct [(0, 1), (1, 1)], 2, 16, .agg ⟨[.pointer none, .bool false]⟩⟩),
  (48, ⟨.ptr 50, 1, 8, .pointer none⟩),
  (50, ⟨.struct [(0, 1)], 1, 16, .agg ⟨[.string ⟨⟨[]⟩⟩]⟩⟩),
  (59, ⟨.slice 9 1, 1, 24, .slice none 0 0⟩),
  (64, ⟨.struct [(0, 1)], 1, 16, .agg ⟨[.string ⟨⟨[]⟩⟩]⟩⟩),
  (65, ⟨.int .u64, 1, 8, .int .u64 0⟩),
  (70, ⟨.iface, 1, 16, .nilIface⟩),
  (74, ⟨.slice 3 1, 1, 24, .slice none 0 0⟩),
  (75, ⟨.ptr 97, 1, 8, .pointer none⟩),
  (80, ⟨.ptr 102, 1, 8, .pointer none⟩),
  (85, ⟨.int .u32, 1, 4, .int .u32 0⟩),
  (86, ⟨.arr 8 85 1, 8, 32, .agg ⟨[.int .u32 0, .int .u32 0, .int .u32 0, .int .u32 0, .int .u32 0, .int .u32 0, .int .u32 0, .int .u32 0]⟩⟩),
  (89, ⟨.arr 64 85 1, 64, 256, .agg ⟨[.int .u32 0, .int .u32 0, .int .u32 0, .int .u32 0, .int .u32 0, .int .u32 0, .int .u32 0, .int .u32 0, .int .u32 0, .int .u32 0, .int .u32 0, .int .u32 0, .int .u32 0, .int .u32 0, .int .u32 0, .int .u32 0, .int .u32 0, .int .u32 0, .int .u32 0, .int .u32 0, .int .u32 0, .int .u32 0, .int .u32 0, .int .u32 0, .int .u32 0, .int .u32 0, .int .u32 0, .int .u32 0, .int .u32 0, .int .u32 0, .int .u32 0, .int .u32 0, .int .u32 0, .int .u32 0, .int .u32 0, .int .u32 0, .int .u32 0, .int .u32 0, .int .u32 0, .int .u32 0, .int .u32 0, .int .u32 0, .int .u32 0, .int .u32 0, .int .u32 0, .int .u32 0, .int .u32 0, .int .u32 0, .int .u32 0, .int .u32 0, .int .u32 0, .int .u32 0, .int .u32 0, .int .u32 0, .int .u32 0, .int .u32 0, .int .u32 0, .int .u32 0, .int .u32 0, .int .u32 0, .int .u32 0, .int .u32 0, .int .u32 0, .int .u32 0]⟩⟩),
  (92, ⟨.int .u64, 1, 8, .int .u64 0⟩),
  (95, ⟨.struct [(0, 1)], 1, 8, .agg ⟨[.int .i64 0]⟩⟩),
  (97, ⟨.struct [(0, 1), (1, 1)], 2, 32, .agg ⟨[.int .i64 0, .slice none 0 0]⟩⟩),
  (100, ⟨.arr 8 85 1, 8, 32, .agg ⟨[.int .u32 0, .int .u32 0, .int .u32 0, .int .u32 0, .int .u32 0, .int .u32 0, .int .u32 0, .int .u32 0]⟩⟩),
  (102, ⟨.struct [(0, 8), (8, 64), (72, 1), (73, 1)], 74, 320, .agg ⟨[.int .u32 0, .int .u32 0, .int .u32 0, .int .u32 0, .int .u32 0, .int .u32 0, .int .u32 0, .int .u32 0, .int .u32 0, .int .u32 0, .int .u32 0, .int .u32 0, .int .u32 0, .int .u32 0, .int .u32 0, .int .u32 0, .int .u32 0, .int .u32 0, .int .u32 0, .int .u32 0, .int .u32 0, .int .u32 0, .int .u32 0, .int .u32 0, .int .u32 0, .int .u32 0, .int .u32 0, .int .u32 0, .int .u32 0, .int .u32 0, .int .u32 0, .int .u32 0, .int .u32 0, .int .u32 0, .int .u32 0, .int .u32 0, .int .u32 0, .int .u32 0, .int .u32 0, .int .u32 0, .int .u32 0, .int .u32 0, .int .u32 0, .int .u32 0, .int .u32 0, .int .u32 0, .int .u32 0, .int .u32 0, .int .u32 0, .int .u32 0, .int .u32 0, .int .u32 0, .int .u32 0, .int .u32 0, .int .u32 0, .int .u32 0, .int .u32 0, .int .u32 0, .int .u32 0, .int .u32 0, .int .u32 0, .int .u32 0, .int .u32 0, .int .u32 0, .int .u32 0, .int .u32 0, .int .u32 0, .int .u32 0, .int .u32 0, .int .u32 0, .int .u32 0, .int .u32 0, .slice none 0 0, .int .u64 0]⟩⟩),
  (104, ⟨.ptr 89, 1, 8, .pointer none⟩),
  (105, ⟨.arr 8 5 1, 8, 8, .agg ⟨[.int .u8 0, .int .u8 0, .int .u8 0, .int .u8 0, .int .u8 0, .int .u8 0, .int .u8 0, .int .u8 0]⟩⟩),
  (108, ⟨.int .i64, 1, 8, .int .i64 0⟩),
  (111, ⟨.ptr 121, 1, 8, .pointer none⟩),
  (115, ⟨.slice 65 1, 1, 24, .slice none 0 0⟩),
  (117, ⟨.slice 85 1, 1, 24, .slice none 0 0⟩),
  (121, ⟨.struct [(0, 1), (1, 1), (2, 1)], 3, 48, .agg ⟨[.string ⟨⟨[]⟩⟩, .string ⟨⟨[]⟩⟩, .nilIface]⟩⟩),
  (123, ⟨.arr 24 5 1, 24, 24, .agg ⟨[.int .u8 0, .int .u8 0, .int .u8 0, .int .u8 0, .int .u8 0, .int .u8 0, .int .u8 0, .int .u8 0, .int .u8 0, .int .u8 0, .int .u8 0, .int .u8 0, .int .u8 0, .int .u8 0, .int .u8 0, .int .u8 0, .int .u8 0, .int .u8 0, .int .u8 0, .int .u8 0, .int .u8 0, .int .u8 0, .int .u8 0, .int .u8 0]⟩⟩),
  (129, ⟨.ptr 5, 1, 8, .pointer none⟩),
  (130, ⟨.ptr 132, 1, 8, .pointer none⟩),
  (132, ⟨.struct [(0, 1)], 1, 16, .agg ⟨[.string ⟨⟨[]⟩⟩]⟩⟩),
  (135, ⟨.arr 20 65 1, 20, 160, .agg ⟨[.int .u64 0, .int .u64 0, .int .u64 0, .int .u64 0, .int .u64 0, .int .u64 0, .int .u64 0, .int .u64 0, .int .u64 0, .int .u64 0, .int .u64 0, .int .u64 0, .int .u64 0, .int .u64 0, .int .u64 0, .int .u64 0, .int .u64 0, .int .u64 0, .int .u64 0, .int .u64 0]⟩⟩),
  (136, ⟨.arr 65 5 1, 65, 65, .agg ⟨[.int .u8 0, .int .u8 0, .int .u8 0, .int .u8 0, .int .u8 0, .int .u8 0, .int .u8 0, .int .u8 0, .int .u8 0, .int .u8 0, .int .u8 0, .int .u8 0, .int .u8 0, .int .u8 0, .int .u8 0, .int .u8 0, .int .u8 0, .int .u8 0, .int .u8 0, .int .u8 0, .int .u8 0, .int .u8 0, .int .u8 0, .int .u8 0, .int .u8 0, .int .u8 0, .int .u8 0, .int .u8 0, .int .u8 0, .int .u8 0, .int .u8 0, .int .u8 0, .int .u8 0, .int .u8 0, .int .u8 0, .int .u8 0, .int .u8 0, .int .u8 0, .int .u8 0, .int .u8 0, .int .u8 0, .int .u8 0, .int .u8 0, .int .u8 0, .int .u8 0, .int .u8 0, .int .u8 0, .int .u8 0, .int .u8 0, .int .u8 0, .int .u8 0, .int .u8 0, .int .u8 0, .int .u8 0, .int .u8 0, .int .u8 0, .int .u8 0, .int .u8 0, .int .u8 0, .int .u8 0, .int .u8 0, .int .u8 0, .int .u8 0, .int .u8 0, .int .u8 0]⟩⟩),
  (140, ⟨.arr 32 5 1, 32, 32, .agg ⟨[.int .u8 0, .int .u8 0, .int .u8 0, .int .u8 0, .int .u8 0, .int .u8 0, .int .u8 0, .int .u8 0, .int .u8 0, .int .u8 0, .int .u8 0, .int .u8 0, .int .u8 0, .int .u8 0, .int .u8 0, .int .u8 0, .int .u8 0, .int .u8 0, .int .u8 0, .int .u8 0, .int .u8 0, .int .u8 0, .int .u8 0, .int .u8 0, .int .u8 0, .int .u8 0, .int .u8 0, .int .u8 0, .int .u8 0, .int .u8 0, .int .u8 0, .int .u8 0]⟩⟩),
  (141, ⟨.arr 64 5 1, 64, 64, .agg ⟨[.int .u8 0, .int .u8 0, .int .u8 0, .int .u8 0, .int .u8 0, .int .u8 0, .int .u8 0, .int .u8 0, .int .u8 0, .int .u8 0, .int .u8 0, .int .u8 0, .int .u8 0, .int .u8 0, .int .u8 0, .int .u8 0, .int .u8 0, .int .u8 0, .int .u8 0, .int .u8 0, .int .u8 0, .int .u8 0, .int .u8 0, .int .u8 0, .int .u8 0, .int .u8 0, .int .u8 0, .int .u8 0, .int .u8 0, .int .u8 0, .int .u8 0, .int .u8 0, .int .u8 0, .int .u8 0, .int .u8 0, .int .u8 0, .int .u8 0, .int .u8 0, .int .u8 0, .int .u8 0, .int .u8 0, .int .u8 0, .int .u8 0, .int .u8 0, .int .u8 0, .int .u8 0, .int .u8 0, .int .u8 0, .int .u8 0, .int .u8 0, .int .u8 0, .int .u8 0, .int .u8 0, .int .u8 0, .int .u8 0, .int .u8 0, .int .u8 0, .int .u8 0, .int .u8 0, .int .u8 0, .int .u8 0, .int .u8 0, .int .u8 0, .int .u8 0]⟩⟩)]
theorem tblOk : TOk Tryd.prog tbl :=
  .cons ⟨by kernel_rfl, Tryd.underlying2⟩ (
  .cons ⟨by kernel_rfl, Tryd.underlying3⟩ (
  .cons ⟨by kernel_rfl, Tryd.underlying4⟩ (
  .cons ⟨by kernel_rfl, Tryd.underlying5⟩ (
  .cons ⟨by kernel_rfl, Tryd.underlying9⟩ (
  .cons ⟨by kernel_rfl, Tryd.underlying21⟩ (
  .cons ⟨by kernel_rfl, ⟨_, Tryd.underlying23, by kernel_rfl⟩⟩ (
  .cons ⟨by kernel_rfl, ⟨_, Tryd.underlying25, by kernel_rfl⟩⟩ (
  .cons ⟨by kernel_rfl, Tryd.underlying27⟩ (
  .cons ⟨by kernel_rfl, ⟨Tryd.underlying35, by kernel_rfl⟩⟩ (
  .cons ⟨by kernel_rfl, Tryd.underlying41⟩ (
  .cons ⟨by kernel_rfl, Tryd.underlying42⟩ (
  .cons ⟨by kernel_rfl, ⟨_, Tryd.underlying45, by kernel_rfl⟩⟩ (
  .cons ⟨by kernel_rfl, Tryd.underlying48⟩ (
  .cons ⟨by kernel_rfl, ⟨_, Tryd.underlying50, by kernel_rfl⟩⟩ (
  .cons ⟨by kernel_rfl, ⟨Tryd.underlying59, by kernel_rfl⟩⟩ (
  .cons ⟨by kernel_rfl, ⟨_, Tryd.underlying64, by kernel_rfl⟩⟩ (
  .cons ⟨by kernel_rfl, Tryd.underlying65⟩ (
  .cons ⟨by kernel_rfl, ⟨_, Tryd.underlying70⟩⟩ (
  .cons ⟨by kernel_rfl, ⟨Tryd.underlying74, by kernel_rfl⟩⟩ (
  .cons ⟨by kernel_rfl, Tryd.underlying75⟩ (
  .cons ⟨by kernel_rfl, Tryd.underlying80⟩ (
  .cons ⟨by kernel_rfl, Tryd.underlying85⟩ (
  .cons ⟨by kernel_rfl, ⟨Tryd.underlying86, by kernel_rfl⟩⟩ (
  .cons ⟨by kernel_rfl, ⟨Tryd.underlying89, by kernel_rfl⟩⟩ (
  .cons ⟨by kernel_rfl, Tryd.underlying92⟩ (
  .cons ⟨by kernel_rfl, ⟨_, Tryd.underlying95, by kernel_rfl⟩⟩ (
  .cons ⟨by kernel_rfl, ⟨_, Tryd.underlying97, by kernel_rfl⟩⟩ (
  .cons ⟨by kernel_rfl, ⟨Tryd.underlying100, by kernel_rfl⟩⟩ (
  .cons ⟨by kernel_rfl, ⟨_, Tryd.underlying102, by kernel_rfl⟩⟩ (
  .cons ⟨by kernel_rfl, Tryd.underlying104⟩ (
  .cons ⟨by kernel_rfl, ⟨Tryd.underlying105, by kernel_rfl⟩⟩ (
  .cons ⟨by kernel_rfl, Tryd.underlying108⟩ (
  .cons ⟨by kernel_rfl, Tryd.underlying111⟩ (
  .cons ⟨by kernel_rfl, ⟨Tryd.underlying115, by kernel_rfl⟩⟩ (
  .cons ⟨by kernel_rfl, ⟨Tryd.underlying117, by kernel_rfl⟩⟩ (
  .cons ⟨by kernel_rfl, ⟨_, Tryd.underlying121, by kernel_rfl⟩⟩ (
  .cons ⟨by kernel_rfl, ⟨Tryd.underlying123, by kernel_rfl⟩⟩ (
  .cons ⟨by kernel_rfl, Tryd.underlying129⟩ (
  .cons ⟨by kernel_rfl, Tryd.underlying130⟩ (
  .cons ⟨by kernel_rfl, ⟨_, Tryd.underlying132, by kernel_rfl⟩⟩ (
  .cons ⟨by kernel_rfl, ⟨Tryd.underlying135, by kernel_rfl⟩⟩ (
  .cons ⟨by kernel_rfl, ⟨Tryd.underlying136, by kernel_rfl⟩⟩ (
  .cons ⟨by kernel_rfl, ⟨Tryd.underlying140, by kernel_rfl⟩⟩ (
  .cons ⟨by kernel_rfl, ⟨Tryd.underlying141, by kernel_rfl⟩⟩ (
  .nil)))))))))))))))))))))))))))))))))))))))))))))
theorem mixed : Tryd.prog.follows .mixedOrders = true := by kernel_rfl
abbrev T_ : Nat := 0
abbrev T_func : Nat := 1
abbrev T_int64 : Nat := 2
abbrev T_int : Nat := 3
abbrev T_bool : Nat := 4
abbrev T_uint8 : Nat := 5
abbrev T_internal_abi_BoundsErrorCode : Nat := 6
abbrev T_struct_x_int64_y_int_signed_bool_code_abi_BoundsErrorCode : Nat := 7
abbrev T_runtime_boundsError : Nat := 8
abbrev T_string : Nat := 9
abbrev T_runtime_errorString : Nat := 10
abbrev T_runtime_plainError : Nat := 11
abbrev T_uintptr : Nat := 12
abbrev T_struct_msg_string_addr_uintptr : Nat := 13
abbrev T_runtime_errorAddressString : Nat := 14
abbrev T_Ptr_runtime_TypeAssertionError : Nat := 15
abbrev T_Ptr_runtime_PanicNilError : Nat := 16
abbrev T_Ptr_abi_Type : Nat := 17
abbrev T_struct_typ_Ptr_abi_Type : Nat := 18
abbrev T_internal_runtime_maps_unhashableTypeError : Nat := 19
abbrev T_interface : Nat := 20
abbrev T_int32 : Nat := 21
abbrev T_struct_Number_int_Letter_uint8 : Nat := 22
abbrev T_api_Seat : Nat := 23
abbrev T_struct_Flight_int_Pax_int_Seq_int_Seat_api_Seat : Nat := 24
abbrev T_api_Pass : Nat := 25
abbrev T_func_bool : Nat := 26
abbrev T_api_Errno : Nat := 27
abbrev T_string_api_Errno : Nat := 28
abbrev T_func_string_api_Pass_string_api_Errno : Nat := 29
abbrev T_func_string_api_Pass_api_Pass_bool : Nat := 30
abbrev T_api_Pass_api_Errno : Nat := 31
abbrev T_func_string_string_api_Pass_api_Errno : Nat := 32
abbrev T_func_string_api_Pass_string_bool : Nat := 33
abbrev T_func_api_Pass_bool : Nat := 34
abbrev T_Sl_uint8 : Nat := 35
abbrev T_func_api_Pass_string : Nat := 36
abbrev T_func_string_string_string : Nat := 37
abbrev T_string_bool : Nat := 39
abbrev T_func_string_string_string_bool : Nat := 40
abbrev T_Ptr_pass_reader : Nat := 41
abbrev T_Ptr_pack_Reader : Nat := 42
abbrev T_func_string_Ptr_pack_Reader : Nat := 43
abbrev T_struct_Ptr_pack_Reader_bad_bool : Nat := 44
abbrev T_pass_reader : Nat := 45
abbrev T_func_int : Nat := 46
abbrev T_func_api_Seat : Nat := 47
abbrev T_Ptr_tarmacref01_Reader : Nat := 48
abbrev T_struct_S_string : Nat := 49
abbrev T_tarmacref01_Reader : Nat := 50
abbrev T_int_api_Errno : Nat := 51
abbrev T_func_int_api_Errno : Nat := 52
abbrev T_func_string_api_Errno : Nat := 53
abbrev T_api_Seat_bool : Nat := 54
abbrev T_func_string_api_Seat_bool : Nat := 55
abbrev T_func_api_Seat_string : Nat := 56
abbrev T_func_int_string : Nat := 57
abbrev T_func_string_string : Nat := 58
abbrev T_Sl_string : Nat := 59
abbrev T_func_string_uint8_string : Nat := 62
abbrev T_struct_text_string : Nat := 63
abbrev T_pack_Reader : Nat := 64
abbrev T_uint64 : Nat := 65
abbrev T_uint64_api_Errno : Nat := 66
abbrev T_func_uint64_api_Errno : Nat := 67
abbrev T_func_uint64_int : Nat := 68
abbrev T_interface_Error_string : Nat := 69
abbrev T_error : Nat := 70
abbrev T_int_error : Nat := 71
abbrev T_func_string_int_error : Nat := 72
abbrev T_func_int_int_int_bool : Nat := 73
abbrev T_Sl_int : Nat := 74
abbrev T_Ptr_pack_Writer : Nat := 75
abbrev T_func_Ptr_pack_Writer : Nat := 76
abbrev T_func_string : Nat := 78
abbrev T_Ptr_tag_digest : Nat := 80
abbrev T_func_Ptr_tag_digest : Nat := 81
abbrev T_func_uint8 : Nat := 82
abbrev T_func_uint64_string : Nat := 83
abbrev T_func_int_uint64 : Nat := 84
abbrev T_uint32 : Nat := 85
abbrev T_8_uint32 : Nat := 86
abbrev T_func_string_Sl_uint8 : Nat := 87
abbrev T_func_8_uint32_64_uint32_8_uint32 : Nat := 88
abbrev T_64_uint32 : Nat := 89
abbrev T_func_Sl_uint8_64_uint32 : Nat := 90
abbrev T_func_string_string_bool : Nat := 91
abbrev T_uint : Nat := 92
abbrev T_func_string_string_int_int_error_error : Nat := 93
abbrev T_struct_n_int : Nat := 94
abbrev T_pack_tally : Nat := 95
abbrev T_struct_pack_tally_out_Sl_uint8 : Nat := 96
abbrev T_pack_Writer : Nat := 97
abbrev T_func_uint64 : Nat := 98
abbrev T_func_64_uint32 : Nat := 99
abbrev T_tag_state : Nat := 100
abbrev T_struct_tag_state_k_64_uint32_rest_Sl_uint8_n_uint64 : Nat := 101
abbrev T_tag_digest : Nat := 102
abbrev T_func_Ptr_64_uint32_Sl_uint8 : Nat := 103
abbrev T_Ptr_64_uint32 : Nat := 104
abbrev T_8_uint8 : Nat := 105
abbrev T_func_uint32_int_uint32 : Nat := 106
abbrev T_func_int_uint32 : Nat := 107
abbrev T_internal_strconv_Error : Nat := 108
abbrev T_int64_error : Nat := 109
abbrev T_func_string_int_int_int64_error : Nat := 110
abbrev T_Ptr_strconv_NumError : Nat := 111
abbrev T_func_string_string_Ptr_strconv_NumError : Nat := 112
abbrev T_func_string_string_int_Ptr_strconv_NumError : Nat := 113
abbrev T_func_int64_int_string : Nat := 114
abbrev T_Sl_uint64 : Nat := 115
abbrev T_Ptr_tag_state : Nat := 116
abbrev T_Sl_uint32 : Nat := 117
abbrev T_uint64_error : Nat := 118
abbrev T_func_string_int_int_uint64_error : Nat := 119
abbrev T_struct_Func_string_Num_string_Err_error : Nat := 120
abbrev T_strconv_NumError : Nat := 121
abbrev T_func_string_error : Nat := 122
abbrev T_24_uint8 : Nat := 123
abbrev T_func_Sl_uint8_uint64 : Nat := 124
abbrev T_Sl_uint8_string : Nat := 125
abbrev T_func_Sl_uint8_uint64_int_bool_bool_Sl_uint8_string : Nat := 126
abbrev T_func_uint8_uint8 : Nat := 127
abbrev T_func_string_bool : Nat := 128
abbrev T_Ptr_uint8 : Nat := 129
abbrev T_Ptr_errors_errorString : Nat := 130
abbrev T_struct_s_string : Nat := 131
abbrev T_errors_errorString : Nat := 132
abbrev T_func_int_int : Nat := 133
abbrev T_func_bool_int : Nat := 134
abbrev T_20_uint64 : Nat := 135
abbrev T_65_uint8 : Nat := 136
abbrev T_func_int_bool : Nat := 137
abbrev T_func_uint_int : Nat := 138
abbrev T_func_uint32_int : Nat := 139
abbrev T_32_uint8 : Nat := 140
abbrev T_64_uint8 : Nat := 141
abbrev T_struct_interface_Ptr_abi_Type_concrete_Ptr_abi_Type_asserted_Ptr_abi_Type_missingMethod_string : Nat := 142
abbrev T_runtime_TypeAssertionError : Nat := 143
abbrev T_0_Ptr_runtime_PanicNilError : Nat := 144
abbrev T_struct_0_Ptr_runtime_PanicNilError : Nat := 145
abbrev T_runtime_PanicNilError : Nat := 146
abbrev T_internal_abi_TFlag : Nat := 147
abbrev T_internal_abi_Kind : Nat := 148
abbrev T_func_unsafe_Pointer_unsafe_Pointer_bool : Nat := 149
abbrev T_internal_abi_NameOff : Nat := 150
abbrev T_internal_abi_TypeOff : Nat := 151
abbrev T_struct_Size_uintptr_PtrBytes_uintptr_Hash_uint32_TFlag_abi_TFlag_Align_uint8_FieldAlign_uint8_Kind_abi_Kind_Equal_func_unsafe_Pointer_unsafe_Pointer_bool_GCData_Ptr_uint8_Str_abi_NameOff_PtrToThis_abi_TypeOff : Nat := 152
abbrev T_internal_abi_Type : Nat := 153
abbrev T_unsafe_Pointer : Nat := 154
abbrev f_main_main : Nat := 0
theorem func_main_main : Tryd.prog.funcs[0]? = some Tryd.f0 := Tryd.func0
abbrev f_gosem_cut : Nat := 1
theorem func_gosem_cut : Tryd.prog.funcs[1]? = some Tryd.f1 := Tryd.func1
abbrev f_tarmaclaw20_PassUnlike : Nat := 3
theorem en_tarmaclaw20_PassUnlike {args : List Value} {w : World} {R : Value → World → Prop} (hlen : Nat.ble args.length 61 = true) (h : SemW Tryd.prog 61 (Tryd.f3.body.getD .skip) (retQ tbl [.tmp 6] R) (argEnv 0 args) w) : Cl Tryd.prog 3 args w R :=
  Cl.enter tblOk Tryd.call3 Tryd.func3 Tryd.ntmps3 rfl Tryd.results3 hlen h
abbrev f_tarmaclaw20_PassExact : Nat := 4
theorem en_tarmaclaw20_PassExact {args : List Value} {w : World} {R : Value → World → Prop} (hlen : Nat.ble args.length 55 = true) (h : SemW Tryd.prog 55 (Tryd.f4.body.getD .skip) (retQ tbl [.tmp 6] R) (argEnv 0 args) w) : Cl Tryd.prog 4 args w R :=
  Cl.enter tblOk Tryd.call4 Tryd.func4 Tryd.ntmps4 rfl Tryd.results4 hlen h
abbrev f_tarmaclaw20_PassBack : Nat := 5
theorem en_tarmaclaw20_PassBack {args : List Value} {w : World} {R : Value → World → Prop} (hlen : Nat.ble args.length 97 = true) (h : SemW Tryd.prog 97 (Tryd.f5.body.getD .skip) (retQ tbl [.tmp 6] R) (argEnv 0 args) w) : Cl Tryd.prog 5 args w R :=
  Cl.enter tblOk Tryd.call5 Tryd.func5 Tryd.ntmps5 rfl Tryd.results5 hlen h
abbrev f_tarmaclaw20_lives : Nat := 6
theorem en_tarmaclaw20_lives {args : List Value} {w : World} {R : Value → World → Prop} (hlen : Nat.ble args.length 21 = true) (h : SemW Tryd.prog 21 (Tryd.f6.body.getD .skip) (retQ tbl [.tmp 0] R) (argEnv 0 args) w) : Cl Tryd.prog 6 args w R :=
  Cl.enter tblOk Tryd.call6 Tryd.func6 Tryd.ntmps6 rfl Tryd.results6 hlen h
abbrev f_pass_Write : Nat := 7
theorem en_pass_Write {args : List Value} {w : World} {R : Value → World → Prop} (hlen : Nat.ble args.length 18 = true) (h : SemW Tryd.prog 18 (Tryd.f7.body.getD .skip) (retQ tbl [.tmp 4, .tmp 5] R) (argEnv 0 args) w) : Cl Tryd.prog 7 args w R :=
  Cl.enter tblOk Tryd.call7 Tryd.func7 Tryd.ntmps7 rfl Tryd.results7 hlen h
abbrev f_tarmacref20_Write : Nat := 8
theorem en_tarmacref20_Write {args : List Value} {w : World} {R : Value → World → Prop} (hlen : Nat.ble args.length 17 = true) (h : SemW Tryd.prog 17 (Tryd.f8.body.getD .skip) (retQ tbl [.tmp 4, .tmp 5] R) (argEnv 0 args) w) : Cl Tryd.prog 8 args w R :=
  Cl.enter tblOk Tryd.call8 Tryd.func8 Tryd.ntmps8 rfl Tryd.results8 hlen h
abbrev f_pass_Read : Nat := 9
theorem en_pass_Read {args : List Value} {w : World} {R : Value → World → Prop} (hlen : Nat.ble args.length 71 = true) (h : SemW Tryd.prog 71 (Tryd.f9.body.getD .skip) (retQ tbl [.cell 4 25, .tmp 5] R) (argEnv 0 args) w) : Cl Tryd.prog 9 args w R :=
  Cl.enter tblOk Tryd.call9 Tryd.func9 Tryd.ntmps9 rfl Tryd.results9 hlen h
abbrev f_tarmacref20_Read : Nat := 10
theorem en_tarmacref20_Read {args : List Value} {w : World} {R : Value → World → Prop} (hlen : Nat.ble args.length 101 = true) (h : SemW Tryd.prog 101 (Tryd.f10.body.getD .skip) (retQ tbl [.cell 4 25, .tmp 5] R) (argEnv 0 args) w) : Cl Tryd.prog 10 args w R :=
  Cl.enter tblOk Tryd.call10 Tryd.func10 Tryd.ntmps10 rfl Tryd.results10 hlen h
abbrev f_tarmacref20_Right : Nat := 11
theorem en_tarmacref20_Right {args : List Value} {w : World} {R : Value → World → Prop} (hlen : Nat.ble args.length 32 = true) (h : SemW Tryd.prog 32 (Tryd.f11.body.getD .skip) (retQ tbl [.tmp 2] R) (argEnv 0 args) w) : Cl Tryd.prog 11 args w R :=
  Cl.enter tblOk Tryd.call11 Tryd.func11 Tryd.ntmps11 rfl Tryd.results11 hlen h
abbrev f_pass_right : Nat := 12
theorem en_pass_right {args : List Value} {w : World} {R : Value → World → Prop} (hlen : Nat.ble args.length 32 = true) (h : SemW Tryd.prog 32 (Tryd.f12.body.getD .skip) (retQ tbl [.tmp 2] R) (argEnv 0 args) w) : Cl Tryd.prog 12 args w R :=
  Cl.enter tblOk Tryd.call12 Tryd.func12 Tryd.ntmps12 rfl Tryd.results12 hlen h
abbrev f_pass_body : Nat := 13
theorem en_pass_body {args : List Value} {w : World} {R : Value → World → Prop} (hlen : Nat.ble args.length 18 = true) (h : SemW Tryd.prog 18 (Tryd.f13.body.getD .skip) (retQ tbl [.tmp 2] R) (argEnv 0 args) w) : Cl Tryd.prog 13 args w R :=
  Cl.enter tblOk Tryd.call13 Tryd.func13 Tryd.ntmps13 rfl Tryd.results13 hlen h
abbrev f_tag_Mac : Nat := 14
theorem en_tag_Mac {args : List Value} {w : World} {R : Value → World → Prop} (hlen : Nat.ble args.length 50 = true) (h : SemW Tryd.prog 50 (Tryd.f14.body.getD .skip) (retQ tbl [.tmp 4] R) (argEnv 0 args) w) : Cl Tryd.prog 14 args w R :=
  Cl.enter tblOk Tryd.call14 Tryd.func14 Tryd.ntmps14 rfl Tryd.results14 hlen h
abbrev f_tarmacref20_Body : Nat := 15
theorem en_tarmacref20_Body {args : List Value} {w : World} {R : Value → World → Prop} (hlen : Nat.ble args.length 20 = true) (h : SemW Tryd.prog 20 (Tryd.f15.body.getD .skip) (retQ tbl [.tmp 2] R) (argEnv 0 args) w) : Cl Tryd.prog 15 args w R :=
  Cl.enter tblOk Tryd.call15 Tryd.func15 Tryd.ntmps15 rfl Tryd.results15 hlen h
abbrev f_tarmacref19_Mac : Nat := 16
theorem en_tarmacref19_Mac {args : List Value} {w : World} {R : Value → World → Prop} (hlen : Nat.ble args.length 14 = true) (h : SemW Tryd.prog 14 (Tryd.f16.body.getD .skip) (retQ tbl [.tmp 4] R) (argEnv 0 args) w) : Cl Tryd.prog 16 args w R :=
  Cl.enter tblOk Tryd.call16 Tryd.func16 Tryd.ntmps16 rfl Tryd.results16 hlen h
abbrev f_strings_CutPrefix : Nat := 17
theorem en_strings_CutPrefix {args : List Value} {w : World} {R : Value → World → Prop} (hlen : Nat.ble args.length 11 = true) (h : SemW Tryd.prog 11 (Tryd.f17.body.getD .skip) (retQ tbl [.tmp 4, .tmp 5] R) (argEnv 0 args) w) : Cl Tryd.prog 17 args w R :=
  Cl.enter tblOk Tryd.call17 Tryd.func17 Tryd.ntmps17 rfl Tryd.results17 hlen h
abbrev f_pack_Read : Nat := 18
theorem en_pack_Read {args : List Value} {w : World} {R : Value → World → Prop} (hlen : Nat.ble args.length 6 = true) (h : SemW Tryd.prog 6 (Tryd.f18.body.getD .skip) (retQ tbl [.tmp 2] R) (argEnv 0 args) w) : Cl Tryd.prog 18 args w R :=
  Cl.enter tblOk Tryd.call18 Tryd.func18 Tryd.ntmps18 rfl Tryd.results18 hlen h
abbrev f_pass_reader_num : Nat := 19
theorem en_pass_reader_num {args : List Value} {w : World} {R : Value → World → Prop} (hlen : Nat.ble args.length 25 = true) (h : SemW Tryd.prog 25 (Tryd.f19.body.getD .skip) (retQ tbl [.tmp 2] R) (argEnv 0 args) w) : Cl Tryd.prog 19 args w R :=
  Cl.enter tblOk Tryd.call19 Tryd.func19 Tryd.ntmps19 rfl Tryd.results19 hlen h
abbrev f_pass_reader_seat : Nat := 20
theorem en_pass_reader_seat {args : List Value} {w : World} {R : Value → World → Prop} (hlen : Nat.ble args.length 36 = true) (h : SemW Tryd.prog 36 (Tryd.f20.body.getD .skip) (retQ tbl [.cell 2 23] R) (argEnv 0 args) w) : Cl Tryd.prog 20 args w R :=
  Cl.enter tblOk Tryd.call20 Tryd.func20 Tryd.ntmps20 rfl Tryd.results20 hlen h
abbrev f_pack_Reader_Done : Nat := 21
theorem en_pack_Reader_Done {args : List Value} {w : World} {R : Value → World → Prop} (hlen : Nat.ble args.length 8 = true) (h : SemW Tryd.prog 8 (Tryd.f21.body.getD .skip) (retQ tbl [.tmp 2] R) (argEnv 0 args) w) : Cl Tryd.prog 21 args w R :=
  Cl.enter tblOk Tryd.call21 Tryd.func21 Tryd.ntmps21 rfl Tryd.results21 hlen h
abbrev f_tarmacref01_Reader_Int : Nat := 22
theorem en_tarmacref01_Reader_Int {args : List Value} {w : World} {R : Value → World → Prop} (hlen : Nat.ble args.length 16 = true) (h : SemW Tryd.prog 16 (Tryd.f22.body.getD .skip) (retQ tbl [.tmp 2, .tmp 3] R) (argEnv 0 args) w) : Cl Tryd.prog 22 args w R :=
  Cl.enter tblOk Tryd.call22 Tryd.func22 Tryd.ntmps22 rfl Tryd.results22 hlen h
abbrev f_tarmacref01_Reader_Text : Nat := 23
theorem en_tarmacref01_Reader_Text {args : List Value} {w : World} {R : Value → World → Prop} (hlen : Nat.ble args.length 49 = true) (h : SemW Tryd.prog 49 (Tryd.f23.body.getD .skip) (retQ tbl [.tmp 2, .tmp 3] R) (argEnv 0 args) w) : Cl Tryd.prog 23 args w R :=
  Cl.enter tblOk Tryd.call23 Tryd.func23 Tryd.ntmps23 rfl Tryd.results23 hlen h
abbrev f_tarmacref13_Parse : Nat := 24
theorem en_tarmacref13_Parse {args : List Value} {w : World} {R : Value → World → Prop} (hlen : Nat.ble args.length 33 = true) (h : SemW Tryd.prog 33 (Tryd.f24.body.getD .skip) (retQ tbl [.cell 2 23, .tmp 3] R) (argEnv 0 args) w) : Cl Tryd.prog 24 args w R :=
  Cl.enter tblOk Tryd.call24 Tryd.func24 Tryd.ntmps24 rfl Tryd.results24 hlen h
abbrev f_tarmacref13_Label : Nat := 25
theorem en_tarmacref13_Label {args : List Value} {w : World} {R : Value → World → Prop} (hlen : Nat.ble args.length 29 = true) (h : SemW Tryd.prog 29 (Tryd.f25.body.getD .skip) (retQ tbl [.tmp 2] R) (argEnv 0 args) w) : Cl Tryd.prog 25 args w R :=
  Cl.enter tblOk Tryd.call25 Tryd.func25 Tryd.ntmps25 rfl Tryd.results25 hlen h
abbrev f_cabin_Label : Nat := 26
theorem en_cabin_Label {args : List Value} {w : World} {R : Value → World → Prop} (hlen : Nat.ble args.length 25 = true) (h : SemW Tryd.prog 25 (Tryd.f26.body.getD .skip) (retQ tbl [.tmp 2] R) (argEnv 0 args) w) : Cl Tryd.prog 26 args w R :=
  Cl.enter tblOk Tryd.call26 Tryd.func26 Tryd.ntmps26 rfl Tryd.results26 hlen h
abbrev f_pack_Ints : Nat := 27
theorem en_pack_Ints {args : List Value} {w : World} {R : Value → World → Prop} (hlen : Nat.ble args.length 10 = true) (h : SemW Tryd.prog 10 (Tryd.f27.body.getD .skip) (retQ tbl [.tmp 2] R) (argEnv 0 args) w) : Cl Tryd.prog 27 args w R :=
  Cl.enter tblOk Tryd.call27 Tryd.func27 Tryd.ntmps27 rfl Tryd.results27 hlen h
abbrev f_pack_Texts : Nat := 28
theorem en_pack_Texts {args : List Value} {w : World} {R : Value → World → Prop} (hlen : Nat.ble args.length 10 = true) (h : SemW Tryd.prog 10 (Tryd.f28.body.getD .skip) (retQ tbl [.tmp 2] R) (argEnv 0 args) w) : Cl Tryd.prog 28 args w R :=
  Cl.enter tblOk Tryd.call28 Tryd.func28 Tryd.ntmps28 rfl Tryd.results28 hlen h
abbrev f_tag_Sum : Nat := 29
theorem en_tag_Sum {args : List Value} {w : World} {R : Value → World → Prop} (hlen : Nat.ble args.length 20 = true) (h : SemW Tryd.prog 20 (Tryd.f29.body.getD .skip) (retQ tbl [.tmp 2] R) (argEnv 0 args) w) : Cl Tryd.prog 29 args w R :=
  Cl.enter tblOk Tryd.call29 Tryd.func29 Tryd.ntmps29 rfl Tryd.results29 hlen h
abbrev f_tarmacref01_Int : Nat := 30
theorem en_tarmacref01_Int {args : List Value} {w : World} {R : Value → World → Prop} (hlen : Nat.ble args.length 6 = true) (h : SemW Tryd.prog 6 (Tryd.f30.body.getD .skip) (retQ tbl [.tmp 2] R) (argEnv 0 args) w) : Cl Tryd.prog 30 args w R :=
  Cl.enter tblOk Tryd.call30 Tryd.func30 Tryd.ntmps30 rfl Tryd.results30 hlen h
abbrev f_tarmacref01_Text : Nat := 31
theorem en_tarmacref01_Text {args : List Value} {w : World} {R : Value → World → Prop} (hlen : Nat.ble args.length 9 = true) (h : SemW Tryd.prog 9 (Tryd.f31.body.getD .skip) (retQ tbl [.tmp 2] R) (argEnv 0 args) w) : Cl Tryd.prog 31 args w R :=
  Cl.enter tblOk Tryd.call31 Tryd.func31 Tryd.ntmps31 rfl Tryd.results31 hlen h
abbrev f_tarmacref19_Sum : Nat := 32
theorem en_tarmacref19_Sum {args : List Value} {w : World} {R : Value → World → Prop} (hlen : Nat.ble args.length 50 = true) (h : SemW Tryd.prog 50 (Tryd.f32.body.getD .skip) (retQ tbl [.tmp 2] R) (argEnv 0 args) w) : Cl Tryd.prog 32 args w R :=
  Cl.enter tblOk Tryd.call32 Tryd.func32 Tryd.ntmps32 rfl Tryd.results32 hlen h
abbrev f_tarmacref19_pad : Nat := 33
theorem en_tarmacref19_pad {args : List Value} {w : World} {R : Value → World → Prop} (hlen : Nat.ble args.length 32 = true) (h : SemW Tryd.prog 32 (Tryd.f33.body.getD .skip) (retQ tbl [.tmp 4] R) (argEnv 0 args) w) : Cl Tryd.prog 33 args w R :=
  Cl.enter tblOk Tryd.call33 Tryd.func33 Tryd.ntmps33 rfl Tryd.results33 hlen h
abbrev f_internal_stringslite_CutPrefix : Nat := 34
theorem en_internal_stringslite_CutPrefix {args : List Value} {w : World} {R : Value → World → Prop} (hlen : Nat.ble args.length 15 = true) (h : SemW Tryd.prog 15 (Tryd.f34.body.getD .skip) (retQ tbl [.tmp 4, .tmp 5] R) (argEnv 0 args) w) : Cl Tryd.prog 34 args w R :=
  Cl.enter tblOk Tryd.call34 Tryd.func34 Tryd.ntmps34 rfl Tryd.results34 hlen h
abbrev f_pack_Reader_Int : Nat := 35
theorem en_pack_Reader_Int {args : List Value} {w : World} {R : Value → World → Prop} (hlen : Nat.ble args.length 20 = true) (h : SemW Tryd.prog 20 (Tryd.f35.body.getD .skip) (retQ tbl [.tmp 2, .tmp 3] R) (argEnv 0 args) w) : Cl Tryd.prog 35 args w R :=
  Cl.enter tblOk Tryd.call35 Tryd.func35 Tryd.ntmps35 rfl Tryd.results35 hlen h
abbrev f_pack_Reader_Text : Nat := 36
theorem en_pack_Reader_Text {args : List Value} {w : World} {R : Value → World → Prop} (hlen : Nat.ble args.length 49 = true) (h : SemW Tryd.prog 49 (Tryd.f36.body.getD .skip) (retQ tbl [.tmp 2, .tmp 3] R) (argEnv 0 args) w) : Cl Tryd.prog 36 args w R :=
  Cl.enter tblOk Tryd.call36 Tryd.func36 Tryd.ntmps36 rfl Tryd.results36 hlen h
abbrev f_cabin_Parse : Nat := 37
theorem en_cabin_Parse {args : List Value} {w : World} {R : Value → World → Prop} (hlen : Nat.ble args.length 36 = true) (h : SemW Tryd.prog 36 (Tryd.f37.body.getD .skip) (retQ tbl [.cell 2 23, .tmp 3] R) (argEnv 0 args) w) : Cl Tryd.prog 37 args w R :=
  Cl.enter tblOk Tryd.call37 Tryd.func37 Tryd.ntmps37 rfl Tryd.results37 hlen h
abbrev f_tarmacref01_Reader_Num : Nat := 38
theorem en_tarmacref01_Reader_Num {args : List Value} {w : World} {R : Value → World → Prop} (hlen : Nat.ble args.length 81 = true) (h : SemW Tryd.prog 81 (Tryd.f38.body.getD .skip) (retQ tbl [.tmp 2, .tmp 3] R) (argEnv 0 args) w) : Cl Tryd.prog 38 args w R :=
  Cl.enter tblOk Tryd.call38 Tryd.func38 Tryd.ntmps38 rfl Tryd.results38 hlen h
abbrev f_tarmacref01_Unfold : Nat := 39
theorem en_tarmacref01_Unfold {args : List Value} {w : World} {R : Value → World → Prop} (hlen : Nat.ble args.length 14 = true) (h : SemW Tryd.prog 14 (Tryd.f39.body.getD .skip) (retQ tbl [.tmp 2] R) (argEnv 0 args) w) : Cl Tryd.prog 39 args w R :=
  Cl.enter tblOk Tryd.call39 Tryd.func39 Tryd.ntmps39 rfl Tryd.results39 hlen h
abbrev f_strconv_Atoi : Nat := 40
theorem en_strconv_Atoi {args : List Value} {w : World} {R : Value → World → Prop} (hlen : Nat.ble args.length 18 = true) (h : SemW Tryd.prog 18 (Tryd.f40.body.getD .skip) (retQ tbl [.tmp 2, .tmp 3] R) (argEnv 0 args) w) : Cl Tryd.prog 40 args w R :=
  Cl.enter tblOk Tryd.call40 Tryd.func40 Tryd.ntmps40 rfl Tryd.results40 hlen h
abbrev f_strconv_Itoa : Nat := 41
theorem en_strconv_Itoa {args : List Value} {w : World} {R : Value → World → Prop} (hlen : Nat.ble args.length 5 = true) (h : SemW Tryd.prog 5 (Tryd.f41.body.getD .skip) (retQ tbl [.tmp 2] R) (argEnv 0 args) w) : Cl Tryd.prog 41 args w R :=
  Cl.enter tblOk Tryd.call41 Tryd.func41 Tryd.ntmps41 rfl Tryd.results41 hlen h
abbrev f_cabin_between : Nat := 42
theorem en_cabin_between {args : List Value} {w : World} {R : Value → World → Prop} (hlen : Nat.ble args.length 15 = true) (h : SemW Tryd.prog 15 (Tryd.f42.body.getD .skip) (retQ tbl [.tmp 6] R) (argEnv 0 args) w) : Cl Tryd.prog 42 args w R :=
  Cl.enter tblOk Tryd.call42 Tryd.func42 Tryd.ntmps42 rfl Tryd.results42 hlen h
abbrev f_pack_New : Nat := 43
theorem en_pack_New {args : List Value} {w : World} {R : Value → World → Prop} (hlen : Nat.ble args.length 3 = true) (h : SemW Tryd.prog 3 (Tryd.f43.body.getD .skip) (retQ tbl [.tmp 0] R) (argEnv 0 args) w) : Cl Tryd.prog 43 args w R :=
  Cl.enter tblOk Tryd.call43 Tryd.func43 Tryd.ntmps43 rfl Tryd.results43 hlen h
abbrev f_pack_Writer_Int : Nat := 44
theorem en_pack_Writer_Int {args : List Value} {w : World} {R : Value → World → Prop} (hlen : Nat.ble args.length 23 = true) (h : SemW Tryd.prog 23 (Tryd.f44.body.getD .skip) (retQ tbl [] R) (argEnv 0 args) w) : Cl Tryd.prog 44 args w R :=
  Cl.enter tblOk Tryd.call44 Tryd.func44 Tryd.ntmps44 rfl Tryd.results44 hlen h
abbrev f_pack_Writer_Bytes : Nat := 45
theorem en_pack_Writer_Bytes {args : List Value} {w : World} {R : Value → World → Prop} (hlen : Nat.ble args.length 8 = true) (h : SemW Tryd.prog 8 (Tryd.f45.body.getD .skip) (retQ tbl [.tmp 2] R) (argEnv 0 args) w) : Cl Tryd.prog 45 args w R :=
  Cl.enter tblOk Tryd.call45 Tryd.func45 Tryd.ntmps45 rfl Tryd.results45 hlen h
abbrev f_pack_Writer_Text : Nat := 46
theorem en_pack_Writer_Text {args : List Value} {w : World} {R : Value → World → Prop} (hlen : Nat.ble args.length 23 = true) (h : SemW Tryd.prog 23 (Tryd.f46.body.getD .skip) (retQ tbl [] R) (argEnv 0 args) w) : Cl Tryd.prog 46 args w R :=
  Cl.enter tblOk Tryd.call46 Tryd.func46 Tryd.ntmps46 rfl Tryd.results46 hlen h
abbrev f_tag_newDigest : Nat := 47
theorem en_tag_newDigest {args : List Value} {w : World} {R : Value → World → Prop} (hlen : Nat.ble args.length 10 = true) (h : SemW Tryd.prog 10 (Tryd.f47.body.getD .skip) (retQ tbl [.tmp 0] R) (argEnv 0 args) w) : Cl Tryd.prog 47 args w R :=
  Cl.enter tblOk Tryd.call47 Tryd.func47 Tryd.ntmps47 rfl Tryd.results47 hlen h
abbrev f_tag_digest_add : Nat := 48
theorem en_tag_digest_add {args : List Value} {w : World} {R : Value → World → Prop} (hlen : Nat.ble args.length 49 = true) (h : SemW Tryd.prog 49 (Tryd.f48.body.getD .skip) (retQ tbl [] R) (argEnv 0 args) w) : Cl Tryd.prog 48 args w R :=
  Cl.enter tblOk Tryd.call48 Tryd.func48 Tryd.ntmps48 rfl Tryd.results48 hlen h
abbrev f_tag_digest_end : Nat := 49
theorem en_tag_digest_end {args : List Value} {w : World} {R : Value → World → Prop} (hlen : Nat.ble args.length 61 = true) (h : SemW Tryd.prog 61 (Tryd.f49.body.getD .skip) (retQ tbl [.tmp 2] R) (argEnv 0 args) w) : Cl Tryd.prog 49 args w R :=
  Cl.enter tblOk Tryd.call49 Tryd.func49 Tryd.ntmps49 rfl Tryd.results49 hlen h
abbrev f_tarmacref01_Num : Nat := 50
theorem en_tarmacref01_Num {args : List Value} {w : World} {R : Value → World → Prop} (hlen : Nat.ble args.length 21 = true) (h : SemW Tryd.prog 21 (Tryd.f50.body.getD .skip) (retQ tbl [.tmp 2] R) (argEnv 0 args) w) : Cl Tryd.prog 50 args w R :=
  Cl.enter tblOk Tryd.call50 Tryd.func50 Tryd.ntmps50 rfl Tryd.results50 hlen h
abbrev f_tarmacref01_Fold : Nat := 51
theorem en_tarmacref01_Fold {args : List Value} {w : World} {R : Value → World → Prop} (hlen : Nat.ble args.length 14 = true) (h : SemW Tryd.prog 14 (Tryd.f51.body.getD .skip) (retQ tbl [.tmp 2] R) (argEnv 0 args) w) : Cl Tryd.prog 51 args w R :=
  Cl.enter tblOk Tryd.call51 Tryd.func51 Tryd.ntmps51 rfl Tryd.results51 hlen h
abbrev f_tarmacref19_filled : Nat := 52
theorem en_tarmacref19_filled {args : List Value} {w : World} {R : Value → World → Prop} (hlen : Nat.ble args.length 36 = true) (h : SemW Tryd.prog 36 (Tryd.f52.body.getD .skip) (retQ tbl [.tmp 2] R) (argEnv 0 args) w) : Cl Tryd.prog 52 args w R :=
  Cl.enter tblOk Tryd.call52 Tryd.func52 Tryd.ntmps52 rfl Tryd.results52 hlen h
abbrev f_tarmacref19_step : Nat := 53
theorem en_tarmacref19_step {args : List Value} {w : World} {R : Value → World → Prop} (hlen : Nat.ble args.length 107 = true) (h : SemW Tryd.prog 107 (Tryd.f53.body.getD .skip) (retQ tbl [.cell 4 86] R) (argEnv 0 args) w) : Cl Tryd.prog 53 args w R :=
  Cl.enter tblOk Tryd.call53 Tryd.func53 Tryd.ntmps53 rfl Tryd.results53 hlen h
abbrev f_tarmacref19_words : Nat := 54
theorem en_tarmacref19_words {args : List Value} {w : World} {R : Value → World → Prop} (hlen : Nat.ble args.length 78 = true) (h : SemW Tryd.prog 78 (Tryd.f54.body.getD .skip) (retQ tbl [.cell 2 89] R) (argEnv 0 args) w) : Cl Tryd.prog 54 args w R :=
  Cl.enter tblOk Tryd.call54 Tryd.func54 Tryd.ntmps54 rfl Tryd.results54 hlen h
abbrev f_internal_stringslite_HasPrefix : Nat := 55
theorem en_internal_stringslite_HasPrefix {args : List Value} {w : World} {R : Value → World → Prop} (hlen : Nat.ble args.length 18 = true) (h : SemW Tryd.prog 18 (Tryd.f55.body.getD .skip) (retQ tbl [.tmp 4] R) (argEnv 0 args) w) : Cl Tryd.prog 55 args w R :=
  Cl.enter tblOk Tryd.call55 Tryd.func55 Tryd.ntmps55 rfl Tryd.results55 hlen h
abbrev f_pack_Reader_Num : Nat := 56
theorem en_pack_Reader_Num {args : List Value} {w : World} {R : Value → World → Prop} (hlen : Nat.ble args.length 59 = true) (h : SemW Tryd.prog 59 (Tryd.f56.body.getD .skip) (retQ tbl [.tmp 2, .tmp 3] R) (argEnv 0 args) w) : Cl Tryd.prog 56 args w R :=
  Cl.enter tblOk Tryd.call56 Tryd.func56 Tryd.ntmps56 rfl Tryd.results56 hlen h
abbrev f_internal_strconv_Atoi : Nat := 57
theorem en_internal_strconv_Atoi {args : List Value} {w : World} {R : Value → World → Prop} (hlen : Nat.ble args.length 77 = true) (h : SemW Tryd.prog 77 (Tryd.f57.body.getD .skip) (retQ tbl [.tmp 2, .tmp 3] R) (argEnv 0 args) w) : Cl Tryd.prog 57 args w R :=
  Cl.enter tblOk Tryd.call57 Tryd.func57 Tryd.ntmps57 rfl Tryd.results57 hlen h
abbrev f_strconv_toError : Nat := 58
theorem en_strconv_toError {args : List Value} {w : World} {R : Value → World → Prop} (hlen : Nat.ble args.length 43 = true) (h : SemW Tryd.prog 43 (Tryd.f58.body.getD .skip) (retQ tbl [.tmp 10] R) (argEnv 0 args) w) : Cl Tryd.prog 58 args w R :=
  Cl.enter tblOk Tryd.call58 Tryd.func58 Tryd.ntmps58 rfl Tryd.results58 hlen h
abbrev f_internal_strconv_Itoa : Nat := 59
theorem en_internal_strconv_Itoa {args : List Value} {w : World} {R : Value → World → Prop} (hlen : Nat.ble args.length 5 = true) (h : SemW Tryd.prog 5 (Tryd.f59.body.getD .skip) (retQ tbl [.tmp 2] R) (argEnv 0 args) w) : Cl Tryd.prog 59 args w R :=
  Cl.enter tblOk Tryd.call59 Tryd.func59 Tryd.ntmps59 rfl Tryd.results59 hlen h
abbrev f_pack_Writer_Num : Nat := 60
theorem en_pack_Writer_Num {args : List Value} {w : World} {R : Value → World → Prop} (hlen : Nat.ble args.length 28 = true) (h : SemW Tryd.prog 28 (Tryd.f60.body.getD .skip) (retQ tbl [] R) (argEnv 0 args) w) : Cl Tryd.prog 60 args w R :=
  Cl.enter tblOk Tryd.call60 Tryd.func60 Tryd.ntmps60 rfl Tryd.results60 hlen h
abbrev f_pack_Writer_add : Nat := 61
theorem en_pack_Writer_add {args : List Value} {w : World} {R : Value → World → Prop} (hlen : Nat.ble args.length 24 = true) (h : SemW Tryd.prog 24 (Tryd.f61.body.getD .skip) (retQ tbl [] R) (argEnv 0 args) w) : Cl Tryd.prog 61 args w R :=
  Cl.enter tblOk Tryd.call61 Tryd.func61 Tryd.ntmps61 rfl Tryd.results61 hlen h
abbrev f_tag_rounds : Nat := 62
theorem en_tag_rounds {args : List Value} {w : World} {R : Value → World → Prop} (hlen : Nat.ble args.length 2 = true) (h : SemW Tryd.prog 2 (Tryd.f62.body.getD .skip) (retQ tbl [.cell 0 89] R) (argEnv 0 args) w) : Cl Tryd.prog 62 args w R :=
  Cl.enter tblOk Tryd.call62 Tryd.func62 Tryd.ntmps62 rfl Tryd.results62 hlen h
abbrev f_tag_state_block : Nat := 63
theorem en_tag_state_block {args : List Value} {w : World} {R : Value → World → Prop} (hlen : Nat.ble args.length 193 = true) (h : SemW Tryd.prog 193 (Tryd.f63.body.getD .skip) (retQ tbl [] R) (argEnv 0 args) w) : Cl Tryd.prog 63 args w R :=
  Cl.enter tblOk Tryd.call63 Tryd.func63 Tryd.ntmps63 rfl Tryd.results63 hlen h
abbrev f_tarmacref19_turn : Nat := 64
theorem en_tarmacref19_turn {args : List Value} {w : World} {R : Value → World → Prop} (hlen : Nat.ble args.length 20 = true) (h : SemW Tryd.prog 20 (Tryd.f64.body.getD .skip) (retQ tbl [.tmp 4] R) (argEnv 0 args) w) : Cl Tryd.prog 64 args w R :=
  Cl.enter tblOk Tryd.call64 Tryd.func64 Tryd.ntmps64 rfl Tryd.results64 hlen h
abbrev f_tarmacref19_k : Nat := 65
theorem en_tarmacref19_k {args : List Value} {w : World} {R : Value → World → Prop} (hlen : Nat.ble args.length 8 = true) (h : SemW Tryd.prog 8 (Tryd.f65.body.getD .skip) (retQ tbl [.tmp 2] R) (argEnv 0 args) w) : Cl Tryd.prog 65 args w R :=
  Cl.enter tblOk Tryd.call65 Tryd.func65 Tryd.ntmps65 rfl Tryd.results65 hlen h
abbrev f_tarmacref19_shift : Nat := 66
theorem en_tarmacref19_shift {args : List Value} {w : World} {R : Value → World → Prop} (hlen : Nat.ble args.length 14 = true) (h : SemW Tryd.prog 14 (Tryd.f66.body.getD .skip) (retQ tbl [.tmp 4] R) (argEnv 0 args) w) : Cl Tryd.prog 66 args w R :=
  Cl.enter tblOk Tryd.call66 Tryd.func66 Tryd.ntmps66 rfl Tryd.results66 hlen h
abbrev f_internal_strconv_ParseInt : Nat := 67
theorem en_internal_strconv_ParseInt {args : List Value} {w : World} {R : Value → World → Prop} (hlen : Nat.ble args.length 73 = true) (h : SemW Tryd.prog 73 (Tryd.f67.body.getD .skip) (retQ tbl [.tmp 6, .tmp 7] R) (argEnv 0 args) w) : Cl Tryd.prog 67 args w R :=
  Cl.enter tblOk Tryd.call67 Tryd.func67 Tryd.ntmps67 rfl Tryd.results67 hlen h
abbrev f_strconv_syntaxError : Nat := 68
theorem en_strconv_syntaxError {args : List Value} {w : World} {R : Value → World → Prop} (hlen : Nat.ble args.length 11 = true) (h : SemW Tryd.prog 11 (Tryd.f68.body.getD .skip) (retQ tbl [.tmp 4] R) (argEnv 0 args) w) : Cl Tryd.prog 68 args w R :=
  Cl.enter tblOk Tryd.call68 Tryd.func68 Tryd.ntmps68 rfl Tryd.results68 hlen h
abbrev f_strconv_rangeError : Nat := 69
theorem en_strconv_rangeError {args : List Value} {w : World} {R : Value → World → Prop} (hlen : Nat.ble args.length 11 = true) (h : SemW Tryd.prog 11 (Tryd.f69.body.getD .skip) (retQ tbl [.tmp 4] R) (argEnv 0 args) w) : Cl Tryd.prog 69 args w R :=
  Cl.enter tblOk Tryd.call69 Tryd.func69 Tryd.ntmps69 rfl Tryd.results69 hlen h
abbrev f_strconv_baseError : Nat := 70
theorem en_strconv_baseError {args : List Value} {w : World} {R : Value → World → Prop} (hlen : Nat.ble args.length 16 = true) (h : SemW Tryd.prog 16 (Tryd.f70.body.getD .skip) (retQ tbl [.tmp 6] R) (argEnv 0 args) w) : Cl Tryd.prog 70 args w R :=
  Cl.enter tblOk Tryd.call70 Tryd.func70 Tryd.ntmps70 rfl Tryd.results70 hlen h
abbrev f_strconv_bitSizeError : Nat := 71
theorem en_strconv_bitSizeError {args : List Value} {w : World} {R : Value → World → Prop} (hlen : Nat.ble args.length 16 = true) (h : SemW Tryd.prog 16 (Tryd.f71.body.getD .skip) (retQ tbl [.tmp 6] R) (argEnv 0 args) w) : Cl Tryd.prog 71 args w R :=
  Cl.enter tblOk Tryd.call71 Tryd.func71 Tryd.ntmps71 rfl Tryd.results71 hlen h
abbrev f_internal_strconv_FormatInt : Nat := 72
theorem en_internal_strconv_FormatInt {args : List Value} {w : World} {R : Value → World → Prop} (hlen : Nat.ble args.length 54 = true) (h : SemW Tryd.prog 54 (Tryd.f72.body.getD .skip) (retQ tbl [.tmp 4] R) (argEnv 0 args) w) : Cl Tryd.prog 72 args w R :=
  Cl.enter tblOk Tryd.call72 Tryd.func72 Tryd.ntmps72 rfl Tryd.results72 hlen h
abbrev f_tag_turn : Nat := 73
theorem en_tag_turn {args : List Value} {w : World} {R : Value → World → Prop} (hlen : Nat.ble args.length 9 = true) (h : SemW Tryd.prog 9 (Tryd.f73.body.getD .skip) (retQ tbl [.tmp 4] R) (argEnv 0 args) w) : Cl Tryd.prog 73 args w R :=
  Cl.enter tblOk Tryd.call73 Tryd.func73 Tryd.ntmps73 rfl Tryd.results73 hlen h
abbrev f_internal_strconv_ParseUint : Nat := 74
theorem en_internal_strconv_ParseUint {args : List Value} {w : World} {R : Value → World → Prop} (hlen : Nat.ble args.length 172 = true) (h : SemW Tryd.prog 172 (Tryd.f74.body.getD .skip) (retQ tbl [.tmp 6, .tmp 7] R) (argEnv 0 args) w) : Cl Tryd.prog 74 args w R :=
  Cl.enter tblOk Tryd.call74 Tryd.func74 Tryd.ntmps74 rfl Tryd.results74 hlen h
abbrev f_internal_stringslite_Clone : Nat := 75
theorem en_internal_stringslite_Clone {args : List Value} {w : World} {R : Value → World → Prop} (hlen : Nat.ble args.length 18 = true) (h : SemW Tryd.prog 18 (Tryd.f75.body.getD .skip) (retQ tbl [.tmp 2] R) (argEnv 0 args) w) : Cl Tryd.prog 75 args w R :=
  Cl.enter tblOk Tryd.call75 Tryd.func75 Tryd.ntmps75 rfl Tryd.results75 hlen h
abbrev f_errors_New : Nat := 76
theorem en_errors_New {args : List Value} {w : World} {R : Value → World → Prop} (hlen : Nat.ble args.length 7 = true) (h : SemW Tryd.prog 7 (Tryd.f76.body.getD .skip) (retQ tbl [.tmp 2] R) (argEnv 0 args) w) : Cl Tryd.prog 76 args w R :=
  Cl.enter tblOk Tryd.call76 Tryd.func76 Tryd.ntmps76 rfl Tryd.results76 hlen h
abbrev f_internal_strconv_small : Nat := 77
theorem en_internal_strconv_small {args : List Value} {w : World} {R : Value → World → Prop} (hlen : Nat.ble args.length 15 = true) (h : SemW Tryd.prog 15 (Tryd.f77.body.getD .skip) (retQ tbl [.tmp 2] R) (argEnv 0 args) w) : Cl Tryd.prog 77 args w R :=
  Cl.enter tblOk Tryd.call77 Tryd.func77 Tryd.ntmps77 rfl Tryd.results77 hlen h
abbrev f_internal_strconv_numDigits : Nat := 78
theorem en_internal_strconv_numDigits {args : List Value} {w : World} {R : Value → World → Prop} (hlen : Nat.ble args.length 15 = true) (h : SemW Tryd.prog 15 (Tryd.f78.body.getD .skip) (retQ tbl [.tmp 2] R) (argEnv 0 args) w) : Cl Tryd.prog 78 args w R :=
  Cl.enter tblOk Tryd.call78 Tryd.func78 Tryd.ntmps78 rfl Tryd.results78 hlen h
abbrev f_internal_strconv_formatBase10 : Nat := 79
theorem en_internal_strconv_formatBase10 {args : List Value} {w : World} {R : Value → World → Prop} (hlen : Nat.ble args.length 167 = true) (h : SemW Tryd.prog 167 (Tryd.f79.body.getD .skip) (retQ tbl [] R) (argEnv 0 args) w) : Cl Tryd.prog 79 args w R :=
  Cl.enter tblOk Tryd.call79 Tryd.func79 Tryd.ntmps79 rfl Tryd.results79 hlen h
abbrev f_internal_strconv_formatBits : Nat := 80
theorem en_internal_strconv_formatBits {args : List Value} {w : World} {R : Value → World → Prop} (hlen : Nat.ble args.length 102 = true) (h : SemW Tryd.prog 102 (Tryd.f80.body.getD .skip) (retQ tbl [.tmp 10, .tmp 11] R) (argEnv 0 args) w) : Cl Tryd.prog 80 args w R :=
  Cl.enter tblOk Tryd.call80 Tryd.func80 Tryd.ntmps80 rfl Tryd.results80 hlen h
abbrev f_math_bits_RotateLeft32 : Nat := 81
theorem en_math_bits_RotateLeft32 {args : List Value} {w : World} {R : Value → World → Prop} (hlen : Nat.ble args.length 17 = true) (h : SemW Tryd.prog 17 (Tryd.f81.body.getD .skip) (retQ tbl [.tmp 4] R) (argEnv 0 args) w) : Cl Tryd.prog 81 args w R :=
  Cl.enter tblOk Tryd.call81 Tryd.func81 Tryd.ntmps81 rfl Tryd.results81 hlen h
abbrev f_internal_strconv_lower : Nat := 82
theorem en_internal_strconv_lower {args : List Value} {w : World} {R : Value → World → Prop} (hlen : Nat.ble args.length 5 = true) (h : SemW Tryd.prog 5 (Tryd.f82.body.getD .skip) (retQ tbl [.tmp 2] R) (argEnv 0 args) w) : Cl Tryd.prog 82 args w R :=
  Cl.enter tblOk Tryd.call82 Tryd.func82 Tryd.ntmps82 rfl Tryd.results82 hlen h
abbrev f_internal_strconv_underscoreOK : Nat := 83
theorem en_internal_strconv_underscoreOK {args : List Value} {w : World} {R : Value → World → Prop} (hlen : Nat.ble args.length 94 = true) (h : SemW Tryd.prog 94 (Tryd.f83.body.getD .skip) (retQ tbl [.tmp 2] R) (argEnv 0 args) w) : Cl Tryd.prog 83 args w R :=
  Cl.enter tblOk Tryd.call83 Tryd.func83 Tryd.ntmps83 rfl Tryd.results83 hlen h
abbrev f_internal_strconv_log10Pow2 : Nat := 84
theorem en_internal_strconv_log10Pow2 {args : List Value} {w : World} {R : Value → World → Prop} (hlen : Nat.ble args.length 6 = true) (h : SemW Tryd.prog 6 (Tryd.f84.body.getD .skip) (retQ tbl [.tmp 2] R) (argEnv 0 args) w) : Cl Tryd.prog 84 args w R :=
  Cl.enter tblOk Tryd.call84 Tryd.func84 Tryd.ntmps84 rfl Tryd.results84 hlen h
abbrev f_math_bits_Len64 : Nat := 85
theorem en_math_bits_Len64 {args : List Value} {w : World} {R : Value → World → Prop} (hlen : Nat.ble args.length 25 = true) (h : SemW Tryd.prog 25 (Tryd.f85.body.getD .skip) (retQ tbl [.tmp 2] R) (argEnv 0 args) w) : Cl Tryd.prog 85 args w R :=
  Cl.enter tblOk Tryd.call85 Tryd.func85 Tryd.ntmps85 rfl Tryd.results85 hlen h
abbrev f_internal_strconv_bool2_int : Nat := 86
theorem en_internal_strconv_bool2_int {args : List Value} {w : World} {R : Value → World → Prop} (hlen : Nat.ble args.length 4 = true) (h : SemW Tryd.prog 4 (Tryd.f86.body.getD .skip) (retQ tbl [.tmp 2] R) (argEnv 0 args) w) : Cl Tryd.prog 86 args w R :=
  Cl.enter tblOk Tryd.call86 Tryd.func86 Tryd.ntmps86 rfl Tryd.results86 hlen h
abbrev f_internal_strconv_isPowerOfTwo : Nat := 87
theorem en_internal_strconv_isPowerOfTwo {args : List Value} {w : World} {R : Value → World → Prop} (hlen : Nat.ble args.length 8 = true) (h : SemW Tryd.prog 8 (Tryd.f87.body.getD .skip) (retQ tbl [.tmp 2] R) (argEnv 0 args) w) : Cl Tryd.prog 87 args w R :=
  Cl.enter tblOk Tryd.call87 Tryd.func87 Tryd.ntmps87 rfl Tryd.results87 hlen h
abbrev f_math_bits_TrailingZeros : Nat := 88
theorem en_math_bits_TrailingZeros {args : List Value} {w : World} {R : Value → World → Prop} (hlen : Nat.ble args.length 8 = true) (h : SemW Tryd.prog 8 (Tryd.f88.body.getD .skip) (retQ tbl [.tmp 2] R) (argEnv 0 args) w) : Cl Tryd.prog 88 args w R :=
  Cl.enter tblOk Tryd.call88 Tryd.func88 Tryd.ntmps88 rfl Tryd.results88 hlen h
abbrev f_math_bits_TrailingZeros32 : Nat := 89
theorem en_math_bits_TrailingZeros32 {args : List Value} {w : World} {R : Value → World → Prop} (hlen : Nat.ble args.length 14 = true) (h : SemW Tryd.prog 14 (Tryd.f89.body.getD .skip) (retQ tbl [.tmp 2] R) (argEnv 0 args) w) : Cl Tryd.prog 89 args w R :=
  Cl.enter tblOk Tryd.call89 Tryd.func89 Tryd.ntmps89 rfl Tryd.results89 hlen h
abbrev f_math_bits_TrailingZeros64 : Nat := 90
theorem en_math_bits_TrailingZeros64 {args : List Value} {w : World} {R : Value → World → Prop} (hlen : Nat.ble args.length 14 = true) (h : SemW Tryd.prog 14 (Tryd.f90.body.getD .skip) (retQ tbl [.tmp 2] R) (argEnv 0 args) w) : Cl Tryd.prog 90 args w R :=
  Cl.enter tblOk Tryd.call90 Tryd.func90 Tryd.ntmps90 rfl Tryd.results90 hlen h
abbrev f_runtime_boundsError_Error : Nat := 91
abbrev f_runtime_boundsError_RuntimeError : Nat := 92
abbrev f_runtime_errorString_Error : Nat := 93
abbrev f_runtime_errorString_RuntimeError : Nat := 94
abbrev f_runtime_plainError_Error : Nat := 95
abbrev f_runtime_plainError_RuntimeError : Nat := 96
abbrev f_runtime_errorAddressString_Error : Nat := 97
abbrev f_runtime_errorAddressString_RuntimeError : Nat := 98
abbrev f_runtime_TypeAssertionError_Error : Nat := 99
abbrev f_runtime_TypeAssertionError_RuntimeError : Nat := 100
abbrev f_runtime_PanicNilError_Error : Nat := 101
abbrev f_runtime_PanicNilError_RuntimeError : Nat := 102
abbrev f_internal_abi_Type_Align : Nat := 103
theorem func_internal_abi_Type_Align : Tryd.prog.funcs[103]? = some Tryd.f103 := Tryd.func103
abbrev f_internal_runtime_maps_unhashableTypeError_Error : Nat := 104
theorem func_internal_runtime_maps_unhashableTypeError_Error : Tryd.prog.funcs[104]? = some Tryd.f104 := Tryd.func104
abbrev f_internal_runtime_maps_unhashableTypeError_RuntimeError : Nat := 105
theorem func_internal_runtime_maps_unhashableTypeError_RuntimeError : Tryd.prog.funcs[105]? = some Tryd.f105 := Tryd.func105
abbrev f_internal_strconv_Error_Error : Nat := 106
theorem func_internal_strconv_Error_Error : Tryd.prog.funcs[106]? = some Tryd.f106 := Tryd.func106
abbrev f_strconv_NumError_Error : Nat := 107
theorem func_strconv_NumError_Error : Tryd.prog.funcs[107]? = some Tryd.f107 := Tryd.func107
abbrev f_errors_errorString_Error : Nat := 108
theorem func_errors_errorString_Error : Tryd.prog.funcs[108]? = some Tryd.f108 := Tryd.func108
abbrev f_internal_abi_Kind_String : Nat := 109
theorem func_internal_abi_Kind_String : Tryd.prog.funcs[109]? = some Tryd.f109 := Tryd.func109
abbrev f_var_s_door_gosem_cut_vars_holds_initialisers_alone_see_the_manifest_s_row_cutvarsword_look_11_test_files_too : Nat := 110
theorem func_var_s_door_gosem_cut_vars_holds_initialisers_alone_see_the_manifest_s_row_cutvarsword_look_11_test_files_too : Tryd.prog.funcs[110]? = some Tryd.f110 := Tryd.func110
abbrev f_var_s_door_internal_strconv_uint64pow10_is_laid_by_its_own_initialiser_plain_data_look_11 : Nat := 111
theorem func_var_s_door_internal_strconv_uint64pow10_is_laid_by_its_own_initialiser_plain_data_look_11 : Tryd.prog.funcs[111]? = some Tryd.f111 := Tryd.func111
abbrev f_var_s_door_math_bits_deBruijn32tab_is_laid_by_its_own_initialiser_plain_data_look_11 : Nat := 112
theorem func_var_s_door_math_bits_deBruijn32tab_is_laid_by_its_own_initialiser_plain_data_look_11 : Tryd.prog.funcs[112]? = some Tryd.f112 := Tryd.func112
abbrev f_var_s_door_math_bits_deBruijn64tab_is_laid_by_its_own_initialiser_plain_data_look_11 : Nat := 113
theorem func_var_s_door_math_bits_deBruijn64tab_is_laid_by_its_own_initialiser_plain_data_look_11 : Tryd.prog.funcs[113]? = some Tryd.f113 := Tryd.func113
abbrev f_var_s_door_strconv_ErrRange_is_laid_by_its_own_call_of_errors_New_on_one_literal_look_11 : Nat := 114
theorem func_var_s_door_strconv_ErrRange_is_laid_by_its_own_call_of_errors_New_on_one_literal_look_11 : Tryd.prog.funcs[114]? = some Tryd.f114 := Tryd.func114
abbrev f_var_s_door_strconv_ErrSyntax_is_laid_by_its_own_call_of_errors_New_on_one_literal_look_11 : Nat := 115
theorem func_var_s_door_strconv_ErrSyntax_is_laid_by_its_own_call_of_errors_New_on_one_literal_look_11 : Tryd.prog.funcs[115]? = some Tryd.f115 := Tryd.func115
abbrev f_var_s_door_the_look_of_gosem_cut_vars_went_over_the_folder_that_the_caller_named_as_the_repository_s_root_look_11 : Nat := 116
theorem func_var_s_door_the_look_of_gosem_cut_vars_went_over_the_folder_that_the_caller_named_as_the_repository_s_root_look_11 : Tryd.prog.funcs[116]? = some Tryd.f116 := Tryd.func116
end Go.Proofs.YtklppplnkpnbhaaDoor
