/- MADE BY PROGRAM (gen.py) out of this seat's translation: the types' table with its proof, the functions' and types' numbers under names, each function's way in. No statement of the seat is here. -/
import Derived.Test.YtkncpdehgcldbaaDoorProg
import Derived.Test.YtkncpdehgcldbaaDoorVec
namespace Go.Proofs.YtkncpdehgcldbaaDoor
open Go Go.Eng Go.Proofs

def tbl : Tbl := [
  (1, ⟨.fn, 1, 8, .nilFunc⟩),
  (2, ⟨.int .i64, 1, 8, .int .i64 0⟩),
  (3, ⟨.int .i64, 1, 8, .int .i64 0⟩),
  (4, ⟨.bool, 1, 1, .bool false⟩),
  (5, ⟨.int .u8, 1, 1, .int .u8 0⟩),
  (9, ⟨.str, 1, 16, .string ⟨⟨[]⟩⟩⟩),
  (21, ⟨.int .i32, 1, 4, .int .i32 0⟩),
  (22, ⟨.slice 28 2, 1, 24, .slice none 0 0⟩),
  (24, ⟨.struct [(0, 1), (1, 1), (2, 1), (3, 1)], 4, 48, .agg ⟨[.slice none 0 0, .int .i64 0, .int .i64 0, .int .i64 0]⟩⟩),
  (25, ⟨.slice 36 5, 1, 24, .slice none 0 0⟩),
  (28, ⟨.struct [(0, 1), (1, 1)], 2, 16, .agg ⟨[.int .i64 0, .int .i64 0]⟩⟩),
  (29, ⟨.int .i64, 1, 8, .int .i64 0⟩),
  (34, ⟨.slice 3 1, 1, 24, .slice none 0 0⟩),
  (36, ⟨.struct [(0, 1), (1, 1), (2, 1), (3, 1), (4, 1)], 5, 72, .agg ⟨[.slice none 0 0, .slice none 0 0, .int .i64 0, .int .i64 0, .int .i64 0]⟩⟩),
  (49, ⟨.slice 24 4, 1, 24, .slice none 0 0⟩),
  (55, ⟨.slice 9 1, 1, 24, .slice none 0 0⟩),
  (63, ⟨.ptr 110, 1, 8, .pointer none⟩),
  (66, ⟨.int .u64, 1, 8, .int .u64 0⟩),
  (69, ⟨.slice 5 1, 1, 24, .slice none 0 0⟩),
  (71, ⟨.ptr 75, 1, 8, .pointer none⟩),
  (72, ⟨.ptr 116, 1, 8, .pointer none⟩),
  (75, ⟨.struct [(0, 1), (1, 1)], 2, 16, .agg ⟨[.pointer none, .bool false]⟩⟩),
  (79, ⟨.ptr 81, 1, 8, .pointer none⟩),
  (81, ⟨.struct [(0, 1)], 1, 16, .agg ⟨[.string ⟨⟨[]⟩⟩]⟩⟩),
  (88, ⟨.ptr 90, 1, 8, .pointer none⟩),
  (90, ⟨.struct [(0, 1), (1, 1)], 2, 32, .agg ⟨[.pointer none, .slice none 0 0]⟩⟩),
  (92, ⟨.int .u32, 1, 4, .int .u32 0⟩),
  (94, ⟨.iface, 1, 16, .nilIface⟩),
  (101, ⟨.fn, 1, 8, .nilFunc⟩),
  (102, ⟨.map 3 3, 1, 8, .map none⟩),
  (104, ⟨.fn, 1, 8, .nilFunc⟩),
  (108, ⟨.struct [(0, 1)], 1, 8, .agg ⟨[.int .i64 0]⟩⟩),
  (110, ⟨.struct [(0, 1), (1, 1)], 2, 32, .agg ⟨[.int .i64 0, .slice none 0 0]⟩⟩),
  (111, ⟨.slice 66 1, 1, 24, .slice none 0 0⟩),
  (112, ⟨.int .u64, 1, 8, .int .u64 0⟩),
  (116, ⟨.struct [(0, 1)], 1, 16, .agg ⟨[.string ⟨⟨[]⟩⟩]⟩⟩),
  (120, ⟨.ptr 5, 1, 8, .pointer none⟩),
  (128, ⟨.int .i64, 1, 8, .int .i64 0⟩),
  (131, ⟨.ptr 143, 1, 8, .pointer none⟩),
  (136, ⟨.arr 24 5 1, 24, 24, .agg ⟨[.int .u8 0, .int .u8 0, .int .u8 0, .int .u8 0, .int .u8 0, .int .u8 0, .int .u8 0, .int .u8 0, .int .u8 0, .int .u8 0, .int .u8 0, .int .u8 0, .int .u8 0, .int .u8 0, .int .u8 0, .int .u8 0, .int .u8 0, .int .u8 0, .int .u8 0, .int .u8 0, .int .u8 0, .int .u8 0, .int .u8 0, .int .u8 0]⟩⟩),
  (143, ⟨.struct [(0, 1), (1, 1), (2, 1)], 3, 48, .agg ⟨[.string ⟨⟨[]⟩⟩, .string ⟨⟨[]⟩⟩, .nilIface]⟩⟩),
  (147, ⟨.arr 20 66 1, 20, 160, .agg ⟨[.int .u64 0, .int .u64 0, .int .u64 0, .int .u64 0, .int .u64 0, .int .u64 0, .int .u64 0, .int .u64 0, .int .u64 0, .int .u64 0, .int .u64 0, .int .u64 0, .int .u64 0, .int .u64 0, .int .u64 0, .int .u64 0, .int .u64 0, .int .u64 0, .int .u64 0, .int .u64 0]⟩⟩),
  (148, ⟨.arr 65 5 1, 65, 65, .agg ⟨[.int .u8 0, .int .u8 0, .int .u8 0, .int .u8 0, .int .u8 0, .int .u8 0, .int .u8 0, .int .u8 0, .int .u8 0, .int .u8 0, .int .u8 0, .int .u8 0, .int .u8 0, .int .u8 0, .int .u8 0, .int .u8 0, .int .u8 0, .int .u8 0, .int .u8 0, .int .u8 0, .int .u8 0, .int .u8 0, .int .u8 0, .int .u8 0, .int .u8 0, .int .u8 0, .int .u8 0, .int .u8 0, .int .u8 0, .int .u8 0, .int .u8 0, .int .u8 0, .int .u8 0, .int .u8 0, .int .u8 0, .int .u8 0, .int .u8 0, .int .u8 0, .int .u8 0, .int .u8 0, .int .u8 0, .int .u8 0, .int .u8 0, .int .u8 0, .int .u8 0, .int .u8 0, .int .u8 0, .int .u8 0, .int .u8 0, .int .u8 0, .int .u8 0, .int .u8 0, .int .u8 0, .int .u8 0, .int .u8 0, .int .u8 0, .int .u8 0, .int .u8 0, .int .u8 0, .int .u8 0, .int .u8 0, .int .u8 0, .int .u8 0, .int .u8 0, .int .u8 0]⟩⟩),
  (151, ⟨.ptr 153, 1, 8, .pointer none⟩),
  (153, ⟨.struct [(0, 1)], 1, 16, .agg ⟨[.string ⟨⟨[]⟩⟩]⟩⟩),
  (155, ⟨.arr 32 5 1, 32, 32, .agg ⟨[.int .u8 0, .int .u8 0, .int .u8 0, .int .u8 0, .int .u8 0, .int .u8 0, .int .u8 0, .int .u8 0, .int .u8 0, .int .u8 0, .int .u8 0, .int .u8 0, .int .u8 0, .int .u8 0, .int .u8 0, .int .u8 0, .int .u8 0, .int .u8 0, .int .u8 0, .int .u8 0, .int .u8 0, .int .u8 0, .int .u8 0, .int .u8 0, .int .u8 0, .int .u8 0, .int .u8 0, .int .u8 0, .int .u8 0, .int .u8 0, .int .u8 0, .int .u8 0]⟩⟩),
  (156, ⟨.arr 64 5 1, 64, 64, .agg ⟨[.int .u8 0, .int .u8 0, .int .u8 0, .int .u8 0, .int .u8 0, .int .u8 0, .int .u8 0, .int .u8 0, .int .u8 0, .int .u8 0, .int .u8 0, .int .u8 0, .int .u8 0, .int .u8 0, .int .u8 0, .int .u8 0, .int .u8 0, .int .u8 0, .int .u8 0, .int .u8 0, .int .u8 0, .int .u8 0, .int .u8 0, .int .u8 0, .int .u8 0, .int .u8 0, .int .u8 0, .int .u8 0, .int .u8 0, .int .u8 0, .int .u8 0, .int .u8 0, .int .u8 0, .int .u8 0, .int .u8 0, .int .u8 0, .int .u8 0, .int .u8 0, .int .u8 0, .int .u8 0, .int .u8 0, .int .u8 0, .int .u8 0, .int .u8 0, .int .u8 0, .int .u8 0, .int .u8 0, .int .u8 0, .int .u8 0, .int .u8 0, .int .u8 0, .int .u8 0, .int .u8 0, .int .u8 0, .int .u8 0, .int .u8 0, .int .u8 0, .int .u8 0, .int .u8 0, .int .u8 0, .int .u8 0, .int .u8 0, .int .u8 0, .int .u8 0]⟩⟩)]
theorem tblOk : TOk Tryd.prog tbl :=
  .cons ⟨by kernel_rfl, ⟨_, _, _, Tryd.underlying1⟩⟩ (
  .cons ⟨by kernel_rfl, Tryd.underlying2⟩ (
  .cons ⟨by kernel_rfl, Tryd.underlying3⟩ (
  .cons ⟨by kernel_rfl, Tryd.underlying4⟩ (
  .cons ⟨by kernel_rfl, Tryd.underlying5⟩ (
  .cons ⟨by kernel_rfl, Tryd.underlying9⟩ (
  .cons ⟨by kernel_rfl, Tryd.underlying21⟩ (
  .cons ⟨by kernel_rfl, ⟨Tryd.underlying22, by kernel_rfl⟩⟩ (
  .cons ⟨by kernel_rfl, ⟨_, Tryd.underlying24, by kernel_rfl⟩⟩ (
  .cons ⟨by kernel_rfl, ⟨Tryd.underlying25, by kernel_rfl⟩⟩ (
  .cons ⟨by kernel_rfl, ⟨_, Tryd.underlying28, by kernel_rfl⟩⟩ (
  .cons ⟨by kernel_rfl, Tryd.underlying29⟩ (
  .cons ⟨by kernel_rfl, ⟨Tryd.underlying34, by kernel_rfl⟩⟩ (
  .cons ⟨by kernel_rfl, ⟨_, Tryd.underlying36, by kernel_rfl⟩⟩ (
  .cons ⟨by kernel_rfl, ⟨Tryd.underlying49, by kernel_rfl⟩⟩ (
  .cons ⟨by kernel_rfl, ⟨Tryd.underlying55, by kernel_rfl⟩⟩ (
  .cons ⟨by kernel_rfl, Tryd.underlying63⟩ (
  .cons ⟨by kernel_rfl, Tryd.underlying66⟩ (
  .cons ⟨by kernel_rfl, ⟨Tryd.underlying69, by kernel_rfl⟩⟩ (
  .cons ⟨by kernel_rfl, Tryd.underlying71⟩ (
  .cons ⟨by kernel_rfl, Tryd.underlying72⟩ (
  .cons ⟨by kernel_rfl, ⟨_, Tryd.underlying75, by kernel_rfl⟩⟩ (
  .cons ⟨by kernel_rfl, Tryd.underlying79⟩ (
  .cons ⟨by kernel_rfl, ⟨_, Tryd.underlying81, by kernel_rfl⟩⟩ (
  .cons ⟨by kernel_rfl, Tryd.underlying88⟩ (
  .cons ⟨by kernel_rfl, ⟨_, Tryd.underlying90, by kernel_rfl⟩⟩ (
  .cons ⟨by kernel_rfl, Tryd.underlying92⟩ (
  .cons ⟨by kernel_rfl, ⟨_, Tryd.underlying94⟩⟩ (
  .cons ⟨by kernel_rfl, ⟨_, _, _, Tryd.underlying101⟩⟩ (
  .cons ⟨by kernel_rfl, Tryd.underlying102⟩ (
  .cons ⟨by kernel_rfl, ⟨_, _, _, Tryd.underlying104⟩⟩ (
  .cons ⟨by kernel_rfl, ⟨_, Tryd.underlying108, by kernel_rfl⟩⟩ (
  .cons ⟨by kernel_rfl, ⟨_, Tryd.underlying110, by kernel_rfl⟩⟩ (
  .cons ⟨by kernel_rfl, ⟨Tryd.underlying111, by kernel_rfl⟩⟩ (
  .cons ⟨by kernel_rfl, Tryd.underlying112⟩ (
  .cons ⟨by kernel_rfl, ⟨_, Tryd.underlying116, by kernel_rfl⟩⟩ (
  .cons ⟨by kernel_rfl, Tryd.underlying120⟩ (
  .cons ⟨by kernel_rfl, Tryd.underlying128⟩ (
  .cons ⟨by kernel_rfl, Tryd.underlying131⟩ (
  .cons ⟨by kernel_rfl, ⟨Tryd.underlying136, by kernel_rfl⟩⟩ (
  .cons ⟨by kernel_rfl, ⟨_, Tryd.underlying143, by kernel_rfl⟩⟩ (
  .cons ⟨by kernel_rfl, ⟨Tryd.underlying147, by kernel_rfl⟩⟩ (
  .cons ⟨by kernel_rfl, ⟨Tryd.underlying148, by kernel_rfl⟩⟩ (
  .cons ⟨by kernel_rfl, Tryd.underlying151⟩ (
  .cons ⟨by kernel_rfl, ⟨_, Tryd.underlying153, by kernel_rfl⟩⟩ (
  .cons ⟨by kernel_rfl, ⟨Tryd.underlying155, by kernel_rfl⟩⟩ (
  .cons ⟨by kernel_rfl, ⟨Tryd.underlying156, by kernel_rfl⟩⟩ (
  .nil)))))))))))))))))))))))))))))))))))))))))))))))
theorem mixed : Tryd.prog.follows .mixedOrders = true := by kernel_rfl
abbrev T_ : Nat := 0
abbrev T_func : Nat := 1
abbrev T_int64 : Nat := 2
abbrev T_int : Nat := 3
abbrev T_bool : Nat := 4
abbrev T_uint8 : Nat := 5
abbrev T_internal_abi_BoundsErrorCode : Nat := 6
abbrev T_struct_x_int64_y_int_signed_bool_code_abi_BoundsErrorCode : Nat := 7
abbrev T_runtime_boundsError : Nat := 8
abbrev T_string : Nat := 9
abbrev T_runtime_errorString : Nat := 10
abbrev T_runtime_plainError : Nat := 11
abbrev T_uintptr : Nat := 12
abbrev T_struct_msg_string_addr_uintptr : Nat := 13
abbrev T_runtime_errorAddressString : Nat := 14
abbrev T_Ptr_runtime_TypeAssertionError : Nat := 15
abbrev T_Ptr_runtime_PanicNilError : Nat := 16
abbrev T_Ptr_abi_Type : Nat := 17
abbrev T_struct_typ_Ptr_abi_Type : Nat := 18
abbrev T_internal_runtime_maps_unhashableTypeError : Nat := 19
abbrev T_interface : Nat := 20
abbrev T_int32 : Nat := 21
abbrev T_Sl_api_File : Nat := 22
abbrev T_struct_Files_Sl_api_File_Wal_int_Next_int_Seq_int : Nat := 23
abbrev T_api_Version : Nat := 24
abbrev T_Sl_api_Edit : Nat := 25
abbrev T_func_bool : Nat := 26
abbrev T_struct_Level_int_N_int : Nat := 27
abbrev T_api_File : Nat := 28
abbrev T_api_Errno : Nat := 29
abbrev T_api_Version_api_Errno : Nat := 30
abbrev T_func_api_Version_api_Edit_api_Version_api_Errno : Nat := 31
abbrev T_func_api_Version_Sl_api_Edit_api_Version_api_Errno : Nat := 32
abbrev T_func_api_Version_api_Version_bool : Nat := 33
abbrev T_Sl_int : Nat := 34
abbrev T_struct_Add_Sl_api_File_Del_Sl_int_Wal_int_Next_int_Seq_int : Nat := 35
abbrev T_api_Edit : Nat := 36
abbrev T_func_api_Version_Sl_api_Edit_bool : Nat := 37
abbrev T_func_api_Version_api_Edit : Nat := 38
abbrev T_func_Sl_api_Edit_bool : Nat := 39
abbrev T_string_api_Errno : Nat := 40
abbrev T_func_api_Edit_string_api_Errno : Nat := 41
abbrev T_api_Edit_api_Errno : Nat := 42
abbrev T_func_string_api_Edit_api_Errno : Nat := 43
abbrev T_func_api_Edit_api_Edit_bool : Nat := 44
abbrev T_func_api_Edit_string_bool : Nat := 45
abbrev T_api_Version_int : Nat := 46
abbrev T_func_string_api_Version_int : Nat := 47
abbrev T_func_string_bool : Nat := 48
abbrev T_Sl_api_Version : Nat := 49
abbrev T_func_string_string_api_Errno : Nat := 50
abbrev T_func_int_string : Nat := 51
abbrev T_func_uint8_int_string : Nat := 52
abbrev T_uint8_int_bool : Nat := 53
abbrev T_func_string_uint8_int_bool : Nat := 54
abbrev T_Sl_string : Nat := 55
abbrev T_func_int_int_string_bool : Nat := 56
abbrev T_func_Sl_api_File_Sl_api_File_bool : Nat := 57
abbrev T_func_Sl_api_File_Sl_api_File : Nat := 58
abbrev T_api_Version_bool : Nat := 59
abbrev T_func_api_Version_api_Edit_api_Version_bool : Nat := 60
abbrev T_func_Sl_api_File_api_File_Sl_api_File : Nat := 61
abbrev T_func_api_Edit_bool : Nat := 62
abbrev T_Ptr_pack_Writer : Nat := 63
abbrev T_func_Ptr_pack_Writer : Nat := 64
abbrev T_func_uint64 : Nat := 65
abbrev T_uint64 : Nat := 66
abbrev T_func_int : Nat := 67
abbrev T_func_string : Nat := 68
abbrev T_Sl_uint8 : Nat := 69
abbrev T_func_uint64_string : Nat := 70
abbrev T_Ptr_manifest_reader : Nat := 71
abbrev T_Ptr_pack_Reader : Nat := 72
abbrev T_func_string_Ptr_pack_Reader : Nat := 73
abbrev T_struct_Ptr_pack_Reader_bad_bool : Nat := 74
abbrev T_manifest_reader : Nat := 75
abbrev T_func_func : Nat := 76
abbrev T_func_Sl_int_Sl_int_bool : Nat := 78
abbrev T_Ptr_tarmacref01_Reader : Nat := 79
abbrev T_struct_S_string : Nat := 80
abbrev T_tarmacref01_Reader : Nat := 81
abbrev T_uint64_api_Errno : Nat := 82
abbrev T_func_uint64_api_Errno : Nat := 83
abbrev T_int_api_Errno : Nat := 84
abbrev T_func_int_api_Errno : Nat := 85
abbrev T_string_int_api_Errno : Nat := 86
abbrev T_func_string_int_string_int_api_Errno : Nat := 87
abbrev T_Ptr_strings_Builder : Nat := 88
abbrev T_struct_addr_Ptr_strings_Builder_buf_Sl_uint8 : Nat := 89
abbrev T_strings_Builder : Nat := 90
abbrev T_func_uint32_string : Nat := 91
abbrev T_uint32 : Nat := 92
abbrev T_interface_Error_string : Nat := 93
abbrev T_error : Nat := 94
abbrev T_int_error : Nat := 95
abbrev T_func_string_int_error : Nat := 96
abbrev T_func_string_uint32 : Nat := 97
abbrev T_func_Sl_api_File_func_api_File_api_File_int : Nat := 98
abbrev T_func_int_int : Nat := 99
abbrev T_func_int_int_int : Nat := 100
abbrev T_func_api_File_api_File_int : Nat := 101
abbrev T_map_int_int : Nat := 102
abbrev T_func_Sl_api_File_func_api_File_bool_bool : Nat := 103
abbrev T_func_api_File_bool : Nat := 104
abbrev T_func_Sl_int_int_bool : Nat := 105
abbrev T_func_Sl_api_File_int_bool : Nat := 106
abbrev T_struct_n_int : Nat := 107
abbrev T_pack_tally : Nat := 108
abbrev T_struct_pack_tally_out_Sl_uint8 : Nat := 109
abbrev T_pack_Writer : Nat := 110
abbrev T_Sl_uint64 : Nat := 111
abbrev T_uint : Nat := 112
abbrev T_func_uint8 : Nat := 113
abbrev T_func_int_uint64 : Nat := 114
abbrev T_struct_text_string : Nat := 115
abbrev T_pack_Reader : Nat := 116
abbrev T_func_uint64_int : Nat := 117
abbrev T_func_string_string : Nat := 119
abbrev T_Ptr_uint8 : Nat := 120
abbrev T_func_string_string_int_int_error_error : Nat := 121
abbrev T_func_Sl_api_File_int_func_api_File_api_File_int : Nat := 122
abbrev T_func_int_bool : Nat := 123
abbrev T_func_Sl_api_File_func_api_File_bool_int : Nat := 124
abbrev T_unsafe_Pointer : Nat := 125
abbrev T_func_unsafe_Pointer_unsafe_Pointer : Nat := 126
abbrev T_func_int64_int_string : Nat := 127
abbrev T_internal_strconv_Error : Nat := 128
abbrev T_int64_error : Nat := 129
abbrev T_func_string_int_int_int64_error : Nat := 130
abbrev T_Ptr_strconv_NumError : Nat := 131
abbrev T_func_string_string_Ptr_strconv_NumError : Nat := 132
abbrev T_func_string_string_int_Ptr_strconv_NumError : Nat := 133
abbrev T_func_Sl_api_File_int_int_func_api_File_api_File_int : Nat := 134
abbrev T_func_Sl_api_File_int_int_int_func_api_File_api_File_int : Nat := 135
abbrev T_24_uint8 : Nat := 136
abbrev T_func_Sl_uint8_uint64 : Nat := 137
abbrev T_Sl_uint8_string : Nat := 138
abbrev T_func_Sl_uint8_uint64_int_bool_bool_Sl_uint8_string : Nat := 139
abbrev T_uint64_error : Nat := 140
abbrev T_func_string_int_int_uint64_error : Nat := 141
abbrev T_struct_Func_string_Num_string_Err_error : Nat := 142
abbrev T_strconv_NumError : Nat := 143
abbrev T_func_string_error : Nat := 144
abbrev T_func_bool_int : Nat := 146
abbrev T_20_uint64 : Nat := 147
abbrev T_65_uint8 : Nat := 148
abbrev T_func_uint_int : Nat := 149
abbrev T_func_uint8_uint8 : Nat := 150
abbrev T_Ptr_errors_errorString : Nat := 151
abbrev T_struct_s_string : Nat := 152
abbrev T_errors_errorString : Nat := 153
abbrev T_func_uint32_int : Nat := 154
abbrev T_32_uint8 : Nat := 155
abbrev T_64_uint8 : Nat := 156
abbrev T_struct_interface_Ptr_abi_Type_concrete_Ptr_abi_Type_asserted_Ptr_abi_Type_missingMethod_string : Nat := 157
abbrev T_runtime_TypeAssertionError : Nat := 158
abbrev T_0_Ptr_runtime_PanicNilError : Nat := 159
abbrev T_struct_0_Ptr_runtime_PanicNilError : Nat := 160
abbrev T_runtime_PanicNilError : Nat := 161
abbrev T_internal_abi_TFlag : Nat := 162
abbrev T_internal_abi_Kind : Nat := 163
abbrev T_func_unsafe_Pointer_unsafe_Pointer_bool : Nat := 164
abbrev T_internal_abi_NameOff : Nat := 165
abbrev T_internal_abi_TypeOff : Nat := 166
abbrev T_struct_Size_uintptr_PtrBytes_uintptr_Hash_uint32_TFlag_abi_TFlag_Align_uint8_FieldAlign_uint8_Kind_abi_Kind_Equal_func_unsafe_Pointer_unsafe_Pointer_bool_GCData_Ptr_uint8_Str_abi_NameOff_PtrToThis_abi_TypeOff : Nat := 167
abbrev T_internal_abi_Type : Nat := 168
abbrev f_main_main : Nat := 0
theorem func_main_main : Tryd.prog.funcs[0]? = some Tryd.f0 := Tryd.func0
abbrev f_gosem_cut : Nat := 1
theorem func_gosem_cut : Tryd.prog.funcs[1]? = some Tryd.f1 := Tryd.func1
abbrev f_tarmaclaw11_ManifestApplies : Nat := 3
theorem en_tarmaclaw11_ManifestApplies {args : List Value} {w : World} {R : Value → World → Prop} (hlen : Nat.ble args.length 111 = true) (h : SemW Tryd.prog 111 (Tryd.f3.body.getD .skip) (retQ tbl [.tmp 4] R) (argEnv 0 args) w) : Cl Tryd.prog 3 args w R :=
  Cl.enter tblOk Tryd.call3 Tryd.func3 Tryd.ntmps3 rfl Tryd.results3 hlen h
abbrev f_tarmaclaw11_ManifestWhole : Nat := 4
theorem en_tarmaclaw11_ManifestWhole {args : List Value} {w : World} {R : Value → World → Prop} (hlen : Nat.ble args.length 70 = true) (h : SemW Tryd.prog 70 (Tryd.f4.body.getD .skip) (retQ tbl [.tmp 2] R) (argEnv 0 args) w) : Cl Tryd.prog 4 args w R :=
  Cl.enter tblOk Tryd.call4 Tryd.func4 Tryd.ntmps4 rfl Tryd.results4 hlen h
abbrev f_tarmaclaw11_ManifestBytes : Nat := 5
theorem en_tarmaclaw11_ManifestBytes {args : List Value} {w : World} {R : Value → World → Prop} (hlen : Nat.ble args.length 81 = true) (h : SemW Tryd.prog 81 (Tryd.f5.body.getD .skip) (retQ tbl [.tmp 4] R) (argEnv 0 args) w) : Cl Tryd.prog 5 args w R :=
  Cl.enter tblOk Tryd.call5 Tryd.func5 Tryd.ntmps5 rfl Tryd.results5 hlen h
abbrev f_tarmaclaw11_ManifestReads : Nat := 6
theorem en_tarmaclaw11_ManifestReads {args : List Value} {w : World} {R : Value → World → Prop} (hlen : Nat.ble args.length 45 = true) (h : SemW Tryd.prog 45 (Tryd.f6.body.getD .skip) (retQ tbl [.tmp 2] R) (argEnv 0 args) w) : Cl Tryd.prog 6 args w R :=
  Cl.enter tblOk Tryd.call6 Tryd.func6 Tryd.ntmps6 rfl Tryd.results6 hlen h
abbrev f_tarmaclaw11_ManifestCuts : Nat := 7
theorem en_tarmaclaw11_ManifestCuts {args : List Value} {w : World} {R : Value → World → Prop} (hlen : Nat.ble args.length 116 = true) (h : SemW Tryd.prog 116 (Tryd.f7.body.getD .skip) (retQ tbl [.tmp 2] R) (argEnv 0 args) w) : Cl Tryd.prog 7 args w R :=
  Cl.enter tblOk Tryd.call7 Tryd.func7 Tryd.ntmps7 rfl Tryd.results7 hlen h
abbrev f_tarmaclaw11_ManifestNames : Nat := 8
theorem en_tarmaclaw11_ManifestNames {args : List Value} {w : World} {R : Value → World → Prop} (hlen : Nat.ble args.length 119 = true) (h : SemW Tryd.prog 119 (Tryd.f8.body.getD .skip) (retQ tbl [.tmp 6] R) (argEnv 0 args) w) : Cl Tryd.prog 8 args w R :=
  Cl.enter tblOk Tryd.call8 Tryd.func8 Tryd.ntmps8 rfl Tryd.results8 hlen h
abbrev f_tarmaclaw11_lives : Nat := 9
theorem en_tarmaclaw11_lives {args : List Value} {w : World} {R : Value → World → Prop} (hlen : Nat.ble args.length 29 = true) (h : SemW Tryd.prog 29 (Tryd.f9.body.getD .skip) (retQ tbl [.tmp 0] R) (argEnv 0 args) w) : Cl Tryd.prog 9 args w R :=
  Cl.enter tblOk Tryd.call9 Tryd.func9 Tryd.ntmps9 rfl Tryd.results9 hlen h
abbrev f_manifest_Apply : Nat := 10
theorem en_manifest_Apply {args : List Value} {w : World} {R : Value → World → Prop} (hlen : Nat.ble args.length 32 = true) (h : SemW Tryd.prog 32 (Tryd.f10.body.getD .skip) (retQ tbl [.cell 4 24, .tmp 5] R) (argEnv 0 args) w) : Cl Tryd.prog 10 args w R :=
  Cl.enter tblOk Tryd.call10 Tryd.func10 Tryd.ntmps10 rfl Tryd.results10 hlen h
abbrev f_tarmacref11_Apply : Nat := 11
theorem en_tarmacref11_Apply {args : List Value} {w : World} {R : Value → World → Prop} (hlen : Nat.ble args.length 44 = true) (h : SemW Tryd.prog 44 (Tryd.f11.body.getD .skip) (retQ tbl [.cell 4 24, .tmp 5] R) (argEnv 0 args) w) : Cl Tryd.prog 11 args w R :=
  Cl.enter tblOk Tryd.call11 Tryd.func11 Tryd.ntmps11 rfl Tryd.results11 hlen h
abbrev f_tarmacref11_Same : Nat := 12
theorem en_tarmacref11_Same {args : List Value} {w : World} {R : Value → World → Prop} (hlen : Nat.ble args.length 31 = true) (h : SemW Tryd.prog 31 (Tryd.f12.body.getD .skip) (retQ tbl [.tmp 4] R) (argEnv 0 args) w) : Cl Tryd.prog 12 args w R :=
  Cl.enter tblOk Tryd.call12 Tryd.func12 Tryd.ntmps12 rfl Tryd.results12 hlen h
abbrev f_manifest_Whole : Nat := 13
theorem en_manifest_Whole {args : List Value} {w : World} {R : Value → World → Prop} (hlen : Nat.ble args.length 13 = true) (h : SemW Tryd.prog 13 (Tryd.f13.body.getD .skip) (retQ tbl [.cell 2 36] R) (argEnv 0 args) w) : Cl Tryd.prog 13 args w R :=
  Cl.enter tblOk Tryd.call13 Tryd.func13 Tryd.ntmps13 rfl Tryd.results13 hlen h
abbrev f_manifest_Encode : Nat := 14
theorem en_manifest_Encode {args : List Value} {w : World} {R : Value → World → Prop} (hlen : Nat.ble args.length 55 = true) (h : SemW Tryd.prog 55 (Tryd.f14.body.getD .skip) (retQ tbl [.tmp 2, .tmp 3] R) (argEnv 0 args) w) : Cl Tryd.prog 14 args w R :=
  Cl.enter tblOk Tryd.call14 Tryd.func14 Tryd.ntmps14 rfl Tryd.results14 hlen h
abbrev f_tarmacref11_Encode : Nat := 15
theorem en_tarmacref11_Encode {args : List Value} {w : World} {R : Value → World → Prop} (hlen : Nat.ble args.length 68 = true) (h : SemW Tryd.prog 68 (Tryd.f15.body.getD .skip) (retQ tbl [.tmp 2, .tmp 3] R) (argEnv 0 args) w) : Cl Tryd.prog 15 args w R :=
  Cl.enter tblOk Tryd.call15 Tryd.func15 Tryd.ntmps15 rfl Tryd.results15 hlen h
abbrev f_manifest_Decode : Nat := 16
theorem en_manifest_Decode {args : List Value} {w : World} {R : Value → World → Prop} (hlen : Nat.ble args.length 44 = true) (h : SemW Tryd.prog 44 (Tryd.f16.body.getD .skip) (retQ tbl [.cell 2 36, .tmp 3] R) (argEnv 0 args) w) : Cl Tryd.prog 16 args w R :=
  Cl.enter tblOk Tryd.call16 Tryd.func16 Tryd.ntmps16 rfl Tryd.results16 hlen h
abbrev f_tarmacref11_SameEdit : Nat := 17
theorem en_tarmacref11_SameEdit {args : List Value} {w : World} {R : Value → World → Prop} (hlen : Nat.ble args.length 38 = true) (h : SemW Tryd.prog 38 (Tryd.f17.body.getD .skip) (retQ tbl [.tmp 4] R) (argEnv 0 args) w) : Cl Tryd.prog 17 args w R :=
  Cl.enter tblOk Tryd.call17 Tryd.func17 Tryd.ntmps17 rfl Tryd.results17 hlen h
abbrev f_tarmacref11_Decode : Nat := 18
theorem en_tarmacref11_Decode {args : List Value} {w : World} {R : Value → World → Prop} (hlen : Nat.ble args.length 133 = true) (h : SemW Tryd.prog 133 (Tryd.f18.body.getD .skip) (retQ tbl [.cell 2 36, .tmp 3] R) (argEnv 0 args) w) : Cl Tryd.prog 18 args w R :=
  Cl.enter tblOk Tryd.call18 Tryd.func18 Tryd.ntmps18 rfl Tryd.results18 hlen h
abbrev f_manifest_Read : Nat := 19
theorem en_manifest_Read {args : List Value} {w : World} {R : Value → World → Prop} (hlen : Nat.ble args.length 44 = true) (h : SemW Tryd.prog 44 (Tryd.f19.body.getD .skip) (retQ tbl [.cell 2 24, .tmp 3] R) (argEnv 0 args) w) : Cl Tryd.prog 19 args w R :=
  Cl.enter tblOk Tryd.call19 Tryd.func19 Tryd.ntmps19 rfl Tryd.results19 hlen h
abbrev f_tarmacref11_Read : Nat := 20
theorem en_tarmacref11_Read {args : List Value} {w : World} {R : Value → World → Prop} (hlen : Nat.ble args.length 44 = true) (h : SemW Tryd.prog 44 (Tryd.f20.body.getD .skip) (retQ tbl [.cell 2 24, .tmp 3] R) (argEnv 0 args) w) : Cl Tryd.prog 20 args w R :=
  Cl.enter tblOk Tryd.call20 Tryd.func20 Tryd.ntmps20 rfl Tryd.results20 hlen h
abbrev f_frame_Seal : Nat := 21
theorem en_frame_Seal {args : List Value} {w : World} {R : Value → World → Prop} (hlen : Nat.ble args.length 33 = true) (h : SemW Tryd.prog 33 (Tryd.f21.body.getD .skip) (retQ tbl [.tmp 2, .tmp 3] R) (argEnv 0 args) w) : Cl Tryd.prog 21 args w R :=
  Cl.enter tblOk Tryd.call21 Tryd.func21 Tryd.ntmps21 rfl Tryd.results21 hlen h
abbrev f_manifest_Table : Nat := 22
theorem en_manifest_Table {args : List Value} {w : World} {R : Value → World → Prop} (hlen : Nat.ble args.length 6 = true) (h : SemW Tryd.prog 6 (Tryd.f22.body.getD .skip) (retQ tbl [.tmp 2] R) (argEnv 0 args) w) : Cl Tryd.prog 22 args w R :=
  Cl.enter tblOk Tryd.call22 Tryd.func22 Tryd.ntmps22 rfl Tryd.results22 hlen h
abbrev f_tarmacref11_Name : Nat := 23
theorem en_tarmacref11_Name {args : List Value} {w : World} {R : Value → World → Prop} (hlen : Nat.ble args.length 11 = true) (h : SemW Tryd.prog 11 (Tryd.f23.body.getD .skip) (retQ tbl [.tmp 4] R) (argEnv 0 args) w) : Cl Tryd.prog 23 args w R :=
  Cl.enter tblOk Tryd.call23 Tryd.func23 Tryd.ntmps23 rfl Tryd.results23 hlen h
abbrev f_manifest_Log : Nat := 24
theorem en_manifest_Log {args : List Value} {w : World} {R : Value → World → Prop} (hlen : Nat.ble args.length 6 = true) (h : SemW Tryd.prog 6 (Tryd.f24.body.getD .skip) (retQ tbl [.tmp 2] R) (argEnv 0 args) w) : Cl Tryd.prog 24 args w R :=
  Cl.enter tblOk Tryd.call24 Tryd.func24 Tryd.ntmps24 rfl Tryd.results24 hlen h
abbrev f_manifest_List : Nat := 25
theorem en_manifest_List {args : List Value} {w : World} {R : Value → World → Prop} (hlen : Nat.ble args.length 6 = true) (h : SemW Tryd.prog 6 (Tryd.f25.body.getD .skip) (retQ tbl [.tmp 2] R) (argEnv 0 args) w) : Cl Tryd.prog 25 args w R :=
  Cl.enter tblOk Tryd.call25 Tryd.func25 Tryd.ntmps25 rfl Tryd.results25 hlen h
abbrev f_manifest_Parse : Nat := 26
theorem en_manifest_Parse {args : List Value} {w : World} {R : Value → World → Prop} (hlen : Nat.ble args.length 37 = true) (h : SemW Tryd.prog 37 (Tryd.f26.body.getD .skip) (retQ tbl [.tmp 2, .tmp 3, .tmp 4] R) (argEnv 0 args) w) : Cl Tryd.prog 26 args w R :=
  Cl.enter tblOk Tryd.call26 Tryd.func26 Tryd.ntmps26 rfl Tryd.results26 hlen h
abbrev f_tarmacref11_Parse : Nat := 27
theorem en_tarmacref11_Parse {args : List Value} {w : World} {R : Value → World → Prop} (hlen : Nat.ble args.length 44 = true) (h : SemW Tryd.prog 44 (Tryd.f27.body.getD .skip) (retQ tbl [.tmp 2, .tmp 3, .tmp 4] R) (argEnv 0 args) w) : Cl Tryd.prog 27 args w R :=
  Cl.enter tblOk Tryd.call27 Tryd.func27 Tryd.ntmps27 rfl Tryd.results27 hlen h
abbrev f_tarmacref11_SameFiles : Nat := 28
theorem en_tarmacref11_SameFiles {args : List Value} {w : World} {R : Value → World → Prop} (hlen : Nat.ble args.length 26 = true) (h : SemW Tryd.prog 26 (Tryd.f28.body.getD .skip) (retQ tbl [.tmp 4] R) (argEnv 0 args) w) : Cl Tryd.prog 28 args w R :=
  Cl.enter tblOk Tryd.call28 Tryd.func28 Tryd.ntmps28 rfl Tryd.results28 hlen h
abbrev f_manifest_sorted : Nat := 29
theorem en_manifest_sorted {args : List Value} {w : World} {R : Value → World → Prop} (hlen : Nat.ble args.length 9 = true) (h : SemW Tryd.prog 9 (Tryd.f29.body.getD .skip) (retQ tbl [.tmp 2] R) (argEnv 0 args) w) : Cl Tryd.prog 29 args w R :=
  Cl.enter tblOk Tryd.call29 Tryd.func29 Tryd.ntmps29 rfl Tryd.results29 hlen h
abbrev f_manifest_apply : Nat := 30
theorem en_manifest_apply {args : List Value} {w : World} {R : Value → World → Prop} (hlen : Nat.ble args.length 122 = true) (h : SemW Tryd.prog 122 (Tryd.f30.body.getD .skip) (retQ tbl [.cell 4 24, .tmp 5] R) (argEnv 0 args) w) : Cl Tryd.prog 30 args w R :=
  Cl.enter tblOk Tryd.call30 Tryd.func30 Tryd.ntmps30 rfl Tryd.results30 hlen h
abbrev f_tarmacref11_put : Nat := 31
theorem en_tarmacref11_put {args : List Value} {w : World} {R : Value → World → Prop} (hlen : Nat.ble args.length 60 = true) (h : SemW Tryd.prog 60 (Tryd.f31.body.getD .skip) (retQ tbl [.tmp 4] R) (argEnv 0 args) w) : Cl Tryd.prog 31 args w R :=
  Cl.enter tblOk Tryd.call31 Tryd.func31 Tryd.ntmps31 rfl Tryd.results31 hlen h
abbrev f_tarmacref11_one : Nat := 32
theorem en_tarmacref11_one {args : List Value} {w : World} {R : Value → World → Prop} (hlen : Nat.ble args.length 100 = true) (h : SemW Tryd.prog 100 (Tryd.f32.body.getD .skip) (retQ tbl [.cell 4 24, .tmp 5] R) (argEnv 0 args) w) : Cl Tryd.prog 32 args w R :=
  Cl.enter tblOk Tryd.call32 Tryd.func32 Tryd.ntmps32 rfl Tryd.results32 hlen h
abbrev f_slices_Clone_api_File_api_File : Nat := 33
theorem en_slices_Clone_api_File_api_File {args : List Value} {w : World} {R : Value → World → Prop} (hlen : Nat.ble args.length 8 = true) (h : SemW Tryd.prog 8 (Tryd.f33.body.getD .skip) (retQ tbl [.tmp 2] R) (argEnv 0 args) w) : Cl Tryd.prog 33 args w R :=
  Cl.enter tblOk Tryd.call33 Tryd.func33 Tryd.ntmps33 rfl Tryd.results33 hlen h
abbrev f_manifest_right : Nat := 34
theorem en_manifest_right {args : List Value} {w : World} {R : Value → World → Prop} (hlen : Nat.ble args.length 46 = true) (h : SemW Tryd.prog 46 (Tryd.f34.body.getD .skip) (retQ tbl [.tmp 2] R) (argEnv 0 args) w) : Cl Tryd.prog 34 args w R :=
  Cl.enter tblOk Tryd.call34 Tryd.func34 Tryd.ntmps34 rfl Tryd.results34 hlen h
abbrev f_pack_New : Nat := 35
theorem en_pack_New {args : List Value} {w : World} {R : Value → World → Prop} (hlen : Nat.ble args.length 3 = true) (h : SemW Tryd.prog 3 (Tryd.f35.body.getD .skip) (retQ tbl [.tmp 0] R) (argEnv 0 args) w) : Cl Tryd.prog 35 args w R :=
  Cl.enter tblOk Tryd.call35 Tryd.func35 Tryd.ntmps35 rfl Tryd.results35 hlen h
abbrev f_pack_Writer_Num : Nat := 36
theorem en_pack_Writer_Num {args : List Value} {w : World} {R : Value → World → Prop} (hlen : Nat.ble args.length 28 = true) (h : SemW Tryd.prog 28 (Tryd.f36.body.getD .skip) (retQ tbl [] R) (argEnv 0 args) w) : Cl Tryd.prog 36 args w R :=
  Cl.enter tblOk Tryd.call36 Tryd.func36 Tryd.ntmps36 rfl Tryd.results36 hlen h
abbrev f_pack_Writer_Int : Nat := 37
theorem en_pack_Writer_Int {args : List Value} {w : World} {R : Value → World → Prop} (hlen : Nat.ble args.length 23 = true) (h : SemW Tryd.prog 23 (Tryd.f37.body.getD .skip) (retQ tbl [] R) (argEnv 0 args) w) : Cl Tryd.prog 37 args w R :=
  Cl.enter tblOk Tryd.call37 Tryd.func37 Tryd.ntmps37 rfl Tryd.results37 hlen h
abbrev f_pack_Writer_Bytes : Nat := 38
theorem en_pack_Writer_Bytes {args : List Value} {w : World} {R : Value → World → Prop} (hlen : Nat.ble args.length 8 = true) (h : SemW Tryd.prog 8 (Tryd.f38.body.getD .skip) (retQ tbl [.tmp 2] R) (argEnv 0 args) w) : Cl Tryd.prog 38 args w R :=
  Cl.enter tblOk Tryd.call38 Tryd.func38 Tryd.ntmps38 rfl Tryd.results38 hlen h
abbrev f_tarmacref11_Right : Nat := 39
theorem en_tarmacref11_Right {args : List Value} {w : World} {R : Value → World → Prop} (hlen : Nat.ble args.length 51 = true) (h : SemW Tryd.prog 51 (Tryd.f39.body.getD .skip) (retQ tbl [.tmp 2] R) (argEnv 0 args) w) : Cl Tryd.prog 39 args w R :=
  Cl.enter tblOk Tryd.call39 Tryd.func39 Tryd.ntmps39 rfl Tryd.results39 hlen h
abbrev f_tarmacref01_Num : Nat := 40
theorem en_tarmacref01_Num {args : List Value} {w : World} {R : Value → World → Prop} (hlen : Nat.ble args.length 21 = true) (h : SemW Tryd.prog 21 (Tryd.f40.body.getD .skip) (retQ tbl [.tmp 2] R) (argEnv 0 args) w) : Cl Tryd.prog 40 args w R :=
  Cl.enter tblOk Tryd.call40 Tryd.func40 Tryd.ntmps40 rfl Tryd.results40 hlen h
abbrev f_tarmacref01_Int : Nat := 41
theorem en_tarmacref01_Int {args : List Value} {w : World} {R : Value → World → Prop} (hlen : Nat.ble args.length 6 = true) (h : SemW Tryd.prog 6 (Tryd.f41.body.getD .skip) (retQ tbl [.tmp 2] R) (argEnv 0 args) w) : Cl Tryd.prog 41 args w R :=
  Cl.enter tblOk Tryd.call41 Tryd.func41 Tryd.ntmps41 rfl Tryd.results41 hlen h
abbrev f_pack_Read : Nat := 42
theorem en_pack_Read {args : List Value} {w : World} {R : Value → World → Prop} (hlen : Nat.ble args.length 6 = true) (h : SemW Tryd.prog 6 (Tryd.f42.body.getD .skip) (retQ tbl [.tmp 2] R) (argEnv 0 args) w) : Cl Tryd.prog 42 args w R :=
  Cl.enter tblOk Tryd.call42 Tryd.func42 Tryd.ntmps42 rfl Tryd.results42 hlen h
abbrev f_manifest_reader_each : Nat := 43
theorem en_manifest_reader_each {args : List Value} {w : World} {R : Value → World → Prop} (hlen : Nat.ble args.length 40 = true) (h : SemW Tryd.prog 40 (Tryd.f43.body.getD .skip) (retQ tbl [] R) (argEnv 0 args) w) : Cl Tryd.prog 43 args w R :=
  Cl.enter tblOk Tryd.call43 Tryd.func43 Tryd.ntmps43 rfl Tryd.results43 hlen h
abbrev f_manifest_Decode_1 : Nat := 44
theorem en_manifest_Decode_1 {args : List Value} {w : World} {R : Value → World → Prop} (hlen : Nat.ble args.length 14 = true) (h : SemW Tryd.prog 14 (Tryd.f44.body.getD .skip) (retQ tbl [] R) (argEnv 0 args) w) : Cl Tryd.prog 44 args w R :=
  Cl.enter tblOk Tryd.call44 Tryd.func44 Tryd.ntmps44 rfl Tryd.results44 hlen h
abbrev f_manifest_reader_int : Nat := 45
theorem en_manifest_reader_int {args : List Value} {w : World} {R : Value → World → Prop} (hlen : Nat.ble args.length 25 = true) (h : SemW Tryd.prog 25 (Tryd.f45.body.getD .skip) (retQ tbl [.tmp 2] R) (argEnv 0 args) w) : Cl Tryd.prog 45 args w R :=
  Cl.enter tblOk Tryd.call45 Tryd.func45 Tryd.ntmps45 rfl Tryd.results45 hlen h
abbrev f_manifest_Decode_2 : Nat := 46
theorem en_manifest_Decode_2 {args : List Value} {w : World} {R : Value → World → Prop} (hlen : Nat.ble args.length 9 = true) (h : SemW Tryd.prog 9 (Tryd.f46.body.getD .skip) (retQ tbl [] R) (argEnv 0 args) w) : Cl Tryd.prog 46 args w R :=
  Cl.enter tblOk Tryd.call46 Tryd.func46 Tryd.ntmps46 rfl Tryd.results46 hlen h
abbrev f_pack_Reader_Done : Nat := 47
theorem en_pack_Reader_Done {args : List Value} {w : World} {R : Value → World → Prop} (hlen : Nat.ble args.length 8 = true) (h : SemW Tryd.prog 8 (Tryd.f47.body.getD .skip) (retQ tbl [.tmp 2] R) (argEnv 0 args) w) : Cl Tryd.prog 47 args w R :=
  Cl.enter tblOk Tryd.call47 Tryd.func47 Tryd.ntmps47 rfl Tryd.results47 hlen h
abbrev f_tarmacref01_SameInts : Nat := 48
theorem en_tarmacref01_SameInts {args : List Value} {w : World} {R : Value → World → Prop} (hlen : Nat.ble args.length 26 = true) (h : SemW Tryd.prog 26 (Tryd.f48.body.getD .skip) (retQ tbl [.tmp 4] R) (argEnv 0 args) w) : Cl Tryd.prog 48 args w R :=
  Cl.enter tblOk Tryd.call48 Tryd.func48 Tryd.ntmps48 rfl Tryd.results48 hlen h
abbrev f_tarmacref01_Reader_Num : Nat := 49
theorem en_tarmacref01_Reader_Num {args : List Value} {w : World} {R : Value → World → Prop} (hlen : Nat.ble args.length 81 = true) (h : SemW Tryd.prog 81 (Tryd.f49.body.getD .skip) (retQ tbl [.tmp 2, .tmp 3] R) (argEnv 0 args) w) : Cl Tryd.prog 49 args w R :=
  Cl.enter tblOk Tryd.call49 Tryd.func49 Tryd.ntmps49 rfl Tryd.results49 hlen h
abbrev f_tarmacref01_Reader_Int : Nat := 50
theorem en_tarmacref01_Reader_Int {args : List Value} {w : World} {R : Value → World → Prop} (hlen : Nat.ble args.length 16 = true) (h : SemW Tryd.prog 16 (Tryd.f50.body.getD .skip) (retQ tbl [.tmp 2, .tmp 3] R) (argEnv 0 args) w) : Cl Tryd.prog 50 args w R :=
  Cl.enter tblOk Tryd.call50 Tryd.func50 Tryd.ntmps50 rfl Tryd.results50 hlen h
abbrev f_frame_First : Nat := 51
theorem en_frame_First {args : List Value} {w : World} {R : Value → World → Prop} (hlen : Nat.ble args.length 54 = true) (h : SemW Tryd.prog 54 (Tryd.f51.body.getD .skip) (retQ tbl [.tmp 4, .tmp 5, .tmp 6] R) (argEnv 0 args) w) : Cl Tryd.prog 51 args w R :=
  Cl.enter tblOk Tryd.call51 Tryd.func51 Tryd.ntmps51 rfl Tryd.results51 hlen h
abbrev f_tarmacref02_First : Nat := 52
theorem en_tarmacref02_First {args : List Value} {w : World} {R : Value → World → Prop} (hlen : Nat.ble args.length 72 = true) (h : SemW Tryd.prog 72 (Tryd.f52.body.getD .skip) (retQ tbl [.tmp 4, .tmp 5, .tmp 6] R) (argEnv 0 args) w) : Cl Tryd.prog 52 args w R :=
  Cl.enter tblOk Tryd.call52 Tryd.func52 Tryd.ntmps52 rfl Tryd.results52 hlen h
abbrev f_frame_four : Nat := 53
theorem en_frame_four {args : List Value} {w : World} {R : Value → World → Prop} (hlen : Nat.ble args.length 16 = true) (h : SemW Tryd.prog 16 (Tryd.f53.body.getD .skip) (retQ tbl [.tmp 2] R) (argEnv 0 args) w) : Cl Tryd.prog 53 args w R :=
  Cl.enter tblOk Tryd.call53 Tryd.func53 Tryd.ntmps53 rfl Tryd.results53 hlen h
abbrev f_strings_Builder_WriteString : Nat := 54
theorem en_strings_Builder_WriteString {args : List Value} {w : World} {R : Value → World → Prop} (hlen : Nat.ble args.length 19 = true) (h : SemW Tryd.prog 19 (Tryd.f54.body.getD .skip) (retQ tbl [.tmp 4, .tmp 5] R) (argEnv 0 args) w) : Cl Tryd.prog 54 args w R :=
  Cl.enter tblOk Tryd.call54 Tryd.func54 Tryd.ntmps54 rfl Tryd.results54 hlen h
abbrev f_frame_Sum : Nat := 55
theorem en_frame_Sum {args : List Value} {w : World} {R : Value → World → Prop} (hlen : Nat.ble args.length 38 = true) (h : SemW Tryd.prog 38 (Tryd.f55.body.getD .skip) (retQ tbl [.tmp 2] R) (argEnv 0 args) w) : Cl Tryd.prog 55 args w R :=
  Cl.enter tblOk Tryd.call55 Tryd.func55 Tryd.ntmps55 rfl Tryd.results55 hlen h
abbrev f_strings_Builder_String : Nat := 56
theorem en_strings_Builder_String {args : List Value} {w : World} {R : Value → World → Prop} (hlen : Nat.ble args.length 14 = true) (h : SemW Tryd.prog 14 (Tryd.f56.body.getD .skip) (retQ tbl [.tmp 2] R) (argEnv 0 args) w) : Cl Tryd.prog 56 args w R :=
  Cl.enter tblOk Tryd.call56 Tryd.func56 Tryd.ntmps56 rfl Tryd.results56 hlen h
abbrev f_strconv_Itoa : Nat := 57
theorem en_strconv_Itoa {args : List Value} {w : World} {R : Value → World → Prop} (hlen : Nat.ble args.length 5 = true) (h : SemW Tryd.prog 5 (Tryd.f57.body.getD .skip) (retQ tbl [.tmp 2] R) (argEnv 0 args) w) : Cl Tryd.prog 57 args w R :=
  Cl.enter tblOk Tryd.call57 Tryd.func57 Tryd.ntmps57 rfl Tryd.results57 hlen h
abbrev f_strconv_Atoi : Nat := 58
theorem en_strconv_Atoi {args : List Value} {w : World} {R : Value → World → Prop} (hlen : Nat.ble args.length 18 = true) (h : SemW Tryd.prog 18 (Tryd.f58.body.getD .skip) (retQ tbl [.tmp 2, .tmp 3] R) (argEnv 0 args) w) : Cl Tryd.prog 58 args w R :=
  Cl.enter tblOk Tryd.call58 Tryd.func58 Tryd.ntmps58 rfl Tryd.results58 hlen h
abbrev f_slices_SortStableFunc_api_File_api_File : Nat := 59
theorem en_slices_SortStableFunc_api_File_api_File {args : List Value} {w : World} {R : Value → World → Prop} (hlen : Nat.ble args.length 9 = true) (h : SemW Tryd.prog 9 (Tryd.f59.body.getD .skip) (retQ tbl [] R) (argEnv 0 args) w) : Cl Tryd.prog 59 args w R :=
  Cl.enter tblOk Tryd.call59 Tryd.func59 Tryd.ntmps59 rfl Tryd.results59 hlen h
abbrev f_manifest_sorted_1 : Nat := 60
theorem en_manifest_sorted_1 {args : List Value} {w : World} {R : Value → World → Prop} (hlen : Nat.ble args.length 17 = true) (h : SemW Tryd.prog 17 (Tryd.f60.body.getD .skip) (retQ tbl [.tmp 4] R) (argEnv 0 args) w) : Cl Tryd.prog 60 args w R :=
  Cl.enter tblOk Tryd.call60 Tryd.func60 Tryd.ntmps60 rfl Tryd.results60 hlen h
abbrev f_cmp_Or_int : Nat := 61
theorem en_cmp_Or_int {args : List Value} {w : World} {R : Value → World → Prop} (hlen : Nat.ble args.length 18 = true) (h : SemW Tryd.prog 18 (Tryd.f61.body.getD .skip) (retQ tbl [.tmp 2] R) (argEnv 0 args) w) : Cl Tryd.prog 61 args w R :=
  Cl.enter tblOk Tryd.call61 Tryd.func61 Tryd.ntmps61 rfl Tryd.results61 hlen h
abbrev f_cmp_Compare_int : Nat := 62
theorem en_cmp_Compare_int {args : List Value} {w : World} {R : Value → World → Prop} (hlen : Nat.ble args.length 20 = true) (h : SemW Tryd.prog 20 (Tryd.f62.body.getD .skip) (retQ tbl [.tmp 4] R) (argEnv 0 args) w) : Cl Tryd.prog 62 args w R :=
  Cl.enter tblOk Tryd.call62 Tryd.func62 Tryd.ntmps62 rfl Tryd.results62 hlen h
abbrev f_slices_ContainsFunc_api_File_api_File : Nat := 63
theorem en_slices_ContainsFunc_api_File_api_File {args : List Value} {w : World} {R : Value → World → Prop} (hlen : Nat.ble args.length 9 = true) (h : SemW Tryd.prog 9 (Tryd.f63.body.getD .skip) (retQ tbl [.tmp 4] R) (argEnv 0 args) w) : Cl Tryd.prog 63 args w R :=
  Cl.enter tblOk Tryd.call63 Tryd.func63 Tryd.ntmps63 rfl Tryd.results63 hlen h
abbrev f_manifest_apply_1 : Nat := 64
theorem en_manifest_apply_1 {args : List Value} {w : World} {R : Value → World → Prop} (hlen : Nat.ble args.length 9 = true) (h : SemW Tryd.prog 9 (Tryd.f64.body.getD .skip) (retQ tbl [.tmp 3] R) (argEnv 0 args) w) : Cl Tryd.prog 64 args w R :=
  Cl.enter tblOk Tryd.call64 Tryd.func64 Tryd.ntmps64 rfl Tryd.results64 hlen h
abbrev f_tarmacref11_once : Nat := 65
theorem en_tarmacref11_once {args : List Value} {w : World} {R : Value → World → Prop} (hlen : Nat.ble args.length 22 = true) (h : SemW Tryd.prog 22 (Tryd.f65.body.getD .skip) (retQ tbl [.tmp 4] R) (argEnv 0 args) w) : Cl Tryd.prog 65 args w R :=
  Cl.enter tblOk Tryd.call65 Tryd.func65 Tryd.ntmps65 rfl Tryd.results65 hlen h
abbrev f_tarmacref11_has : Nat := 66
theorem en_tarmacref11_has {args : List Value} {w : World} {R : Value → World → Prop} (hlen : Nat.ble args.length 18 = true) (h : SemW Tryd.prog 18 (Tryd.f66.body.getD .skip) (retQ tbl [.tmp 4] R) (argEnv 0 args) w) : Cl Tryd.prog 66 args w R :=
  Cl.enter tblOk Tryd.call66 Tryd.func66 Tryd.ntmps66 rfl Tryd.results66 hlen h
abbrev f_pack_Writer_add : Nat := 67
theorem en_pack_Writer_add {args : List Value} {w : World} {R : Value → World → Prop} (hlen : Nat.ble args.length 24 = true) (h : SemW Tryd.prog 24 (Tryd.f67.body.getD .skip) (retQ tbl [] R) (argEnv 0 args) w) : Cl Tryd.prog 67 args w R :=
  Cl.enter tblOk Tryd.call67 Tryd.func67 Tryd.ntmps67 rfl Tryd.results67 hlen h
abbrev f_tarmacref01_Fold : Nat := 68
theorem en_tarmacref01_Fold {args : List Value} {w : World} {R : Value → World → Prop} (hlen : Nat.ble args.length 14 = true) (h : SemW Tryd.prog 14 (Tryd.f68.body.getD .skip) (retQ tbl [.tmp 2] R) (argEnv 0 args) w) : Cl Tryd.prog 68 args w R :=
  Cl.enter tblOk Tryd.call68 Tryd.func68 Tryd.ntmps68 rfl Tryd.results68 hlen h
abbrev f_pack_Reader_Num : Nat := 69
theorem en_pack_Reader_Num {args : List Value} {w : World} {R : Value → World → Prop} (hlen : Nat.ble args.length 59 = true) (h : SemW Tryd.prog 59 (Tryd.f69.body.getD .skip) (retQ tbl [.tmp 2, .tmp 3] R) (argEnv 0 args) w) : Cl Tryd.prog 69 args w R :=
  Cl.enter tblOk Tryd.call69 Tryd.func69 Tryd.ntmps69 rfl Tryd.results69 hlen h
abbrev f_pack_Reader_Int : Nat := 70
theorem en_pack_Reader_Int {args : List Value} {w : World} {R : Value → World → Prop} (hlen : Nat.ble args.length 20 = true) (h : SemW Tryd.prog 20 (Tryd.f70.body.getD .skip) (retQ tbl [.tmp 2, .tmp 3] R) (argEnv 0 args) w) : Cl Tryd.prog 70 args w R :=
  Cl.enter tblOk Tryd.call70 Tryd.func70 Tryd.ntmps70 rfl Tryd.results70 hlen h
abbrev f_tarmacref01_Unfold : Nat := 71
theorem en_tarmacref01_Unfold {args : List Value} {w : World} {R : Value → World → Prop} (hlen : Nat.ble args.length 14 = true) (h : SemW Tryd.prog 14 (Tryd.f71.body.getD .skip) (retQ tbl [.tmp 2] R) (argEnv 0 args) w) : Cl Tryd.prog 71 args w R :=
  Cl.enter tblOk Tryd.call71 Tryd.func71 Tryd.ntmps71 rfl Tryd.results71 hlen h
abbrev f_frame_number : Nat := 72
theorem en_frame_number {args : List Value} {w : World} {R : Value → World → Prop} (hlen : Nat.ble args.length 21 = true) (h : SemW Tryd.prog 21 (Tryd.f72.body.getD .skip) (retQ tbl [.tmp 2] R) (argEnv 0 args) w) : Cl Tryd.prog 72 args w R :=
  Cl.enter tblOk Tryd.call72 Tryd.func72 Tryd.ntmps72 rfl Tryd.results72 hlen h
abbrev f_tarmacref02_Frame : Nat := 73
theorem en_tarmacref02_Frame {args : List Value} {w : World} {R : Value → World → Prop} (hlen : Nat.ble args.length 17 = true) (h : SemW Tryd.prog 17 (Tryd.f73.body.getD .skip) (retQ tbl [.tmp 2] R) (argEnv 0 args) w) : Cl Tryd.prog 73 args w R :=
  Cl.enter tblOk Tryd.call73 Tryd.func73 Tryd.ntmps73 rfl Tryd.results73 hlen h
abbrev f_strings_Builder_copyCheck : Nat := 74
theorem en_strings_Builder_copyCheck {args : List Value} {w : World} {R : Value → World → Prop} (hlen : Nat.ble args.length 20 = true) (h : SemW Tryd.prog 20 (Tryd.f74.body.getD .skip) (retQ tbl [] R) (argEnv 0 args) w) : Cl Tryd.prog 74 args w R :=
  Cl.enter tblOk Tryd.call74 Tryd.func74 Tryd.ntmps74 rfl Tryd.results74 hlen h
abbrev f_internal_strconv_Itoa : Nat := 75
theorem en_internal_strconv_Itoa {args : List Value} {w : World} {R : Value → World → Prop} (hlen : Nat.ble args.length 5 = true) (h : SemW Tryd.prog 5 (Tryd.f75.body.getD .skip) (retQ tbl [.tmp 2] R) (argEnv 0 args) w) : Cl Tryd.prog 75 args w R :=
  Cl.enter tblOk Tryd.call75 Tryd.func75 Tryd.ntmps75 rfl Tryd.results75 hlen h
abbrev f_internal_strconv_Atoi : Nat := 76
theorem en_internal_strconv_Atoi {args : List Value} {w : World} {R : Value → World → Prop} (hlen : Nat.ble args.length 77 = true) (h : SemW Tryd.prog 77 (Tryd.f76.body.getD .skip) (retQ tbl [.tmp 2, .tmp 3] R) (argEnv 0 args) w) : Cl Tryd.prog 76 args w R :=
  Cl.enter tblOk Tryd.call76 Tryd.func76 Tryd.ntmps76 rfl Tryd.results76 hlen h
abbrev f_strconv_toError : Nat := 77
theorem en_strconv_toError {args : List Value} {w : World} {R : Value → World → Prop} (hlen : Nat.ble args.length 43 = true) (h : SemW Tryd.prog 43 (Tryd.f77.body.getD .skip) (retQ tbl [.tmp 10] R) (argEnv 0 args) w) : Cl Tryd.prog 77 args w R :=
  Cl.enter tblOk Tryd.call77 Tryd.func77 Tryd.ntmps77 rfl Tryd.results77 hlen h
abbrev f_slices_stableCmpFunc_api_File : Nat := 78
theorem en_slices_stableCmpFunc_api_File {args : List Value} {w : World} {R : Value → World → Prop} (hlen : Nat.ble args.length 63 = true) (h : SemW Tryd.prog 63 (Tryd.f78.body.getD .skip) (retQ tbl [] R) (argEnv 0 args) w) : Cl Tryd.prog 78 args w R :=
  Cl.enter tblOk Tryd.call78 Tryd.func78 Tryd.ntmps78 rfl Tryd.results78 hlen h
abbrev f_cmp_isNaN_int : Nat := 79
theorem en_cmp_isNaN_int {args : List Value} {w : World} {R : Value → World → Prop} (hlen : Nat.ble args.length 6 = true) (h : SemW Tryd.prog 6 (Tryd.f79.body.getD .skip) (retQ tbl [.tmp 2] R) (argEnv 0 args) w) : Cl Tryd.prog 79 args w R :=
  Cl.enter tblOk Tryd.call79 Tryd.func79 Tryd.ntmps79 rfl Tryd.results79 hlen h
abbrev f_slices_IndexFunc_api_File_api_File : Nat := 80
theorem en_slices_IndexFunc_api_File_api_File {args : List Value} {w : World} {R : Value → World → Prop} (hlen : Nat.ble args.length 19 = true) (h : SemW Tryd.prog 19 (Tryd.f80.body.getD .skip) (retQ tbl [.tmp 4] R) (argEnv 0 args) w) : Cl Tryd.prog 80 args w R :=
  Cl.enter tblOk Tryd.call80 Tryd.func80 Tryd.ntmps80 rfl Tryd.results80 hlen h
abbrev f_tarmacref02_four : Nat := 81
theorem en_tarmacref02_four {args : List Value} {w : World} {R : Value → World → Prop} (hlen : Nat.ble args.length 19 = true) (h : SemW Tryd.prog 19 (Tryd.f81.body.getD .skip) (retQ tbl [.tmp 2] R) (argEnv 0 args) w) : Cl Tryd.prog 81 args w R :=
  Cl.enter tblOk Tryd.call81 Tryd.func81 Tryd.ntmps81 rfl Tryd.results81 hlen h
abbrev f_tarmacref02_Sum : Nat := 82
theorem en_tarmacref02_Sum {args : List Value} {w : World} {R : Value → World → Prop} (hlen : Nat.ble args.length 33 = true) (h : SemW Tryd.prog 33 (Tryd.f82.body.getD .skip) (retQ tbl [.tmp 2] R) (argEnv 0 args) w) : Cl Tryd.prog 82 args w R :=
  Cl.enter tblOk Tryd.call82 Tryd.func82 Tryd.ntmps82 rfl Tryd.results82 hlen h
abbrev f_internal_abi_NoEscape : Nat := 83
theorem func_internal_abi_NoEscape : Tryd.prog.funcs[83]? = some Tryd.f83 := Tryd.func83
abbrev f_internal_strconv_FormatInt : Nat := 84
theorem en_internal_strconv_FormatInt {args : List Value} {w : World} {R : Value → World → Prop} (hlen : Nat.ble args.length 54 = true) (h : SemW Tryd.prog 54 (Tryd.f84.body.getD .skip) (retQ tbl [.tmp 4] R) (argEnv 0 args) w) : Cl Tryd.prog 84 args w R :=
  Cl.enter tblOk Tryd.call84 Tryd.func84 Tryd.ntmps84 rfl Tryd.results84 hlen h
abbrev f_internal_strconv_ParseInt : Nat := 85
theorem en_internal_strconv_ParseInt {args : List Value} {w : World} {R : Value → World → Prop} (hlen : Nat.ble args.length 73 = true) (h : SemW Tryd.prog 73 (Tryd.f85.body.getD .skip) (retQ tbl [.tmp 6, .tmp 7] R) (argEnv 0 args) w) : Cl Tryd.prog 85 args w R :=
  Cl.enter tblOk Tryd.call85 Tryd.func85 Tryd.ntmps85 rfl Tryd.results85 hlen h
abbrev f_strconv_syntaxError : Nat := 86
theorem en_strconv_syntaxError {args : List Value} {w : World} {R : Value → World → Prop} (hlen : Nat.ble args.length 11 = true) (h : SemW Tryd.prog 11 (Tryd.f86.body.getD .skip) (retQ tbl [.tmp 4] R) (argEnv 0 args) w) : Cl Tryd.prog 86 args w R :=
  Cl.enter tblOk Tryd.call86 Tryd.func86 Tryd.ntmps86 rfl Tryd.results86 hlen h
abbrev f_strconv_rangeError : Nat := 87
theorem en_strconv_rangeError {args : List Value} {w : World} {R : Value → World → Prop} (hlen : Nat.ble args.length 11 = true) (h : SemW Tryd.prog 11 (Tryd.f87.body.getD .skip) (retQ tbl [.tmp 4] R) (argEnv 0 args) w) : Cl Tryd.prog 87 args w R :=
  Cl.enter tblOk Tryd.call87 Tryd.func87 Tryd.ntmps87 rfl Tryd.results87 hlen h
abbrev f_strconv_baseError : Nat := 88
theorem en_strconv_baseError {args : List Value} {w : World} {R : Value → World → Prop} (hlen : Nat.ble args.length 16 = true) (h : SemW Tryd.prog 16 (Tryd.f88.body.getD .skip) (retQ tbl [.tmp 6] R) (argEnv 0 args) w) : Cl Tryd.prog 88 args w R :=
  Cl.enter tblOk Tryd.call88 Tryd.func88 Tryd.ntmps88 rfl Tryd.results88 hlen h
abbrev f_strconv_bitSizeError : Nat := 89
theorem en_strconv_bitSizeError {args : List Value} {w : World} {R : Value → World → Prop} (hlen : Nat.ble args.length 16 = true) (h : SemW Tryd.prog 16 (Tryd.f89.body.getD .skip) (retQ tbl [.tmp 6] R) (argEnv 0 args) w) : Cl Tryd.prog 89 args w R :=
  Cl.enter tblOk Tryd.call89 Tryd.func89 Tryd.ntmps89 rfl Tryd.results89 hlen h
abbrev f_slices_insertionSortCmpFunc_api_File : Nat := 90
theorem en_slices_insertionSortCmpFunc_api_File {args : List Value} {w : World} {R : Value → World → Prop} (hlen : Nat.ble args.length 53 = true) (h : SemW Tryd.prog 53 (Tryd.f90.body.getD .skip) (retQ tbl [] R) (argEnv 0 args) w) : Cl Tryd.prog 90 args w R :=
  Cl.enter tblOk Tryd.call90 Tryd.func90 Tryd.ntmps90 rfl Tryd.results90 hlen h
abbrev f_slices_symMergeCmpFunc_api_File : Nat := 91
theorem en_slices_symMergeCmpFunc_api_File {args : List Value} {w : World} {R : Value → World → Prop} (hlen : Nat.ble args.length 220 = true) (h : SemW Tryd.prog 220 (Tryd.f91.body.getD .skip) (retQ tbl [] R) (argEnv 0 args) w) : Cl Tryd.prog 91 args w R :=
  Cl.enter tblOk Tryd.call91 Tryd.func91 Tryd.ntmps91 rfl Tryd.results91 hlen h
abbrev f_internal_strconv_small : Nat := 92
theorem en_internal_strconv_small {args : List Value} {w : World} {R : Value → World → Prop} (hlen : Nat.ble args.length 15 = true) (h : SemW Tryd.prog 15 (Tryd.f92.body.getD .skip) (retQ tbl [.tmp 2] R) (argEnv 0 args) w) : Cl Tryd.prog 92 args w R :=
  Cl.enter tblOk Tryd.call92 Tryd.func92 Tryd.ntmps92 rfl Tryd.results92 hlen h
abbrev f_internal_strconv_numDigits : Nat := 93
theorem en_internal_strconv_numDigits {args : List Value} {w : World} {R : Value → World → Prop} (hlen : Nat.ble args.length 15 = true) (h : SemW Tryd.prog 15 (Tryd.f93.body.getD .skip) (retQ tbl [.tmp 2] R) (argEnv 0 args) w) : Cl Tryd.prog 93 args w R :=
  Cl.enter tblOk Tryd.call93 Tryd.func93 Tryd.ntmps93 rfl Tryd.results93 hlen h
abbrev f_internal_strconv_formatBase10 : Nat := 94
theorem en_internal_strconv_formatBase10 {args : List Value} {w : World} {R : Value → World → Prop} (hlen : Nat.ble args.length 167 = true) (h : SemW Tryd.prog 167 (Tryd.f94.body.getD .skip) (retQ tbl [] R) (argEnv 0 args) w) : Cl Tryd.prog 94 args w R :=
  Cl.enter tblOk Tryd.call94 Tryd.func94 Tryd.ntmps94 rfl Tryd.results94 hlen h
abbrev f_internal_strconv_formatBits : Nat := 95
theorem en_internal_strconv_formatBits {args : List Value} {w : World} {R : Value → World → Prop} (hlen : Nat.ble args.length 102 = true) (h : SemW Tryd.prog 102 (Tryd.f95.body.getD .skip) (retQ tbl [.tmp 10, .tmp 11] R) (argEnv 0 args) w) : Cl Tryd.prog 95 args w R :=
  Cl.enter tblOk Tryd.call95 Tryd.func95 Tryd.ntmps95 rfl Tryd.results95 hlen h
abbrev f_internal_strconv_ParseUint : Nat := 96
theorem en_internal_strconv_ParseUint {args : List Value} {w : World} {R : Value → World → Prop} (hlen : Nat.ble args.length 172 = true) (h : SemW Tryd.prog 172 (Tryd.f96.body.getD .skip) (retQ tbl [.tmp 6, .tmp 7] R) (argEnv 0 args) w) : Cl Tryd.prog 96 args w R :=
  Cl.enter tblOk Tryd.call96 Tryd.func96 Tryd.ntmps96 rfl Tryd.results96 hlen h
abbrev f_internal_stringslite_Clone : Nat := 97
theorem en_internal_stringslite_Clone {args : List Value} {w : World} {R : Value → World → Prop} (hlen : Nat.ble args.length 18 = true) (h : SemW Tryd.prog 18 (Tryd.f97.body.getD .skip) (retQ tbl [.tmp 2] R) (argEnv 0 args) w) : Cl Tryd.prog 97 args w R :=
  Cl.enter tblOk Tryd.call97 Tryd.func97 Tryd.ntmps97 rfl Tryd.results97 hlen h
abbrev f_errors_New : Nat := 98
theorem en_errors_New {args : List Value} {w : World} {R : Value → World → Prop} (hlen : Nat.ble args.length 7 = true) (h : SemW Tryd.prog 7 (Tryd.f98.body.getD .skip) (retQ tbl [.tmp 2] R) (argEnv 0 args) w) : Cl Tryd.prog 98 args w R :=
  Cl.enter tblOk Tryd.call98 Tryd.func98 Tryd.ntmps98 rfl Tryd.results98 hlen h
abbrev f_slices_rotateCmpFunc_api_File : Nat := 99
theorem en_slices_rotateCmpFunc_api_File {args : List Value} {w : World} {R : Value → World → Prop} (hlen : Nat.ble args.length 58 = true) (h : SemW Tryd.prog 58 (Tryd.f99.body.getD .skip) (retQ tbl [] R) (argEnv 0 args) w) : Cl Tryd.prog 99 args w R :=
  Cl.enter tblOk Tryd.call99 Tryd.func99 Tryd.ntmps99 rfl Tryd.results99 hlen h
abbrev f_internal_strconv_log10Pow2 : Nat := 100
theorem en_internal_strconv_log10Pow2 {args : List Value} {w : World} {R : Value → World → Prop} (hlen : Nat.ble args.length 6 = true) (h : SemW Tryd.prog 6 (Tryd.f100.body.getD .skip) (retQ tbl [.tmp 2] R) (argEnv 0 args) w) : Cl Tryd.prog 100 args w R :=
  Cl.enter tblOk Tryd.call100 Tryd.func100 Tryd.ntmps100 rfl Tryd.results100 hlen h
abbrev f_math_bits_Len64 : Nat := 101
theorem en_math_bits_Len64 {args : List Value} {w : World} {R : Value → World → Prop} (hlen : Nat.ble args.length 25 = true) (h : SemW Tryd.prog 25 (Tryd.f101.body.getD .skip) (retQ tbl [.tmp 2] R) (argEnv 0 args) w) : Cl Tryd.prog 101 args w R :=
  Cl.enter tblOk Tryd.call101 Tryd.func101 Tryd.ntmps101 rfl Tryd.results101 hlen h
abbrev f_internal_strconv_bool2_int : Nat := 102
theorem en_internal_strconv_bool2_int {args : List Value} {w : World} {R : Value → World → Prop} (hlen : Nat.ble args.length 4 = true) (h : SemW Tryd.prog 4 (Tryd.f102.body.getD .skip) (retQ tbl [.tmp 2] R) (argEnv 0 args) w) : Cl Tryd.prog 102 args w R :=
  Cl.enter tblOk Tryd.call102 Tryd.func102 Tryd.ntmps102 rfl Tryd.results102 hlen h
abbrev f_internal_strconv_isPowerOfTwo : Nat := 103
theorem en_internal_strconv_isPowerOfTwo {args : List Value} {w : World} {R : Value → World → Prop} (hlen : Nat.ble args.length 8 = true) (h : SemW Tryd.prog 8 (Tryd.f103.body.getD .skip) (retQ tbl [.tmp 2] R) (argEnv 0 args) w) : Cl Tryd.prog 103 args w R :=
  Cl.enter tblOk Tryd.call103 Tryd.func103 Tryd.ntmps103 rfl Tryd.results103 hlen h
abbrev f_math_bits_TrailingZeros : Nat := 104
theorem en_math_bits_TrailingZeros {args : List Value} {w : World} {R : Value → World → Prop} (hlen : Nat.ble args.length 8 = true) (h : SemW Tryd.prog 8 (Tryd.f104.body.getD .skip) (retQ tbl [.tmp 2] R) (argEnv 0 args) w) : Cl Tryd.prog 104 args w R :=
  Cl.enter tblOk Tryd.call104 Tryd.func104 Tryd.ntmps104 rfl Tryd.results104 hlen h
abbrev f_internal_strconv_lower : Nat := 105
theorem en_internal_strconv_lower {args : List Value} {w : World} {R : Value → World → Prop} (hlen : Nat.ble args.length 5 = true) (h : SemW Tryd.prog 5 (Tryd.f105.body.getD .skip) (retQ tbl [.tmp 2] R) (argEnv 0 args) w) : Cl Tryd.prog 105 args w R :=
  Cl.enter tblOk Tryd.call105 Tryd.func105 Tryd.ntmps105 rfl Tryd.results105 hlen h
abbrev f_internal_strconv_underscoreOK : Nat := 106
theorem en_internal_strconv_underscoreOK {args : List Value} {w : World} {R : Value → World → Prop} (hlen : Nat.ble args.length 94 = true) (h : SemW Tryd.prog 94 (Tryd.f106.body.getD .skip) (retQ tbl [.tmp 2] R) (argEnv 0 args) w) : Cl Tryd.prog 106 args w R :=
  Cl.enter tblOk Tryd.call106 Tryd.func106 Tryd.ntmps106 rfl Tryd.results106 hlen h
abbrev f_slices_swapRangeCmpFunc_api_File : Nat := 107
theorem en_slices_swapRangeCmpFunc_api_File {args : List Value} {w : World} {R : Value → World → Prop} (hlen : Nat.ble args.length 38 = true) (h : SemW Tryd.prog 38 (Tryd.f107.body.getD .skip) (retQ tbl [] R) (argEnv 0 args) w) : Cl Tryd.prog 107 args w R :=
  Cl.enter tblOk Tryd.call107 Tryd.func107 Tryd.ntmps107 rfl Tryd.results107 hlen h
abbrev f_math_bits_TrailingZeros32 : Nat := 108
theorem en_math_bits_TrailingZeros32 {args : List Value} {w : World} {R : Value → World → Prop} (hlen : Nat.ble args.length 14 = true) (h : SemW Tryd.prog 14 (Tryd.f108.body.getD .skip) (retQ tbl [.tmp 2] R) (argEnv 0 args) w) : Cl Tryd.prog 108 args w R :=
  Cl.enter tblOk Tryd.call108 Tryd.func108 Tryd.ntmps108 rfl Tryd.results108 hlen h
abbrev f_math_bits_TrailingZeros64 : Nat := 109
theorem en_math_bits_TrailingZeros64 {args : List Value} {w : World} {R : Value → World → Prop} (hlen : Nat.ble args.length 14 = true) (h : SemW Tryd.prog 14 (Tryd.f109.body.getD .skip) (retQ tbl [.tmp 2] R) (argEnv 0 args) w) : Cl Tryd.prog 109 args w R :=
  Cl.enter tblOk Tryd.call109 Tryd.func109 Tryd.ntmps109 rfl Tryd.results109 hlen h
abbrev f_runtime_boundsError_Error : Nat := 110
abbrev f_runtime_boundsError_RuntimeError : Nat := 111
abbrev f_runtime_errorString_Error : Nat := 112
abbrev f_runtime_errorString_RuntimeError : Nat := 113
abbrev f_runtime_plainError_Error : Nat := 114
abbrev f_runtime_plainError_RuntimeError : Nat := 115
abbrev f_runtime_errorAddressString_Error : Nat := 116
abbrev f_runtime_errorAddressString_RuntimeError : Nat := 117
abbrev f_runtime_TypeAssertionError_Error : Nat := 118
abbrev f_runtime_TypeAssertionError_RuntimeError : Nat := 119
abbrev f_runtime_PanicNilError_Error : Nat := 120
abbrev f_runtime_PanicNilError_RuntimeError : Nat := 121
abbrev f_internal_abi_Type_Align : Nat := 122
theorem func_internal_abi_Type_Align : Tryd.prog.funcs[122]? = some Tryd.f122 := Tryd.func122
abbrev f_internal_runtime_maps_unhashableTypeError_Error : Nat := 123
theorem func_internal_runtime_maps_unhashableTypeError_Error : Tryd.prog.funcs[123]? = some Tryd.f123 := Tryd.func123
abbrev f_internal_runtime_maps_unhashableTypeError_RuntimeError : Nat := 124
theorem func_internal_runtime_maps_unhashableTypeError_RuntimeError : Tryd.prog.funcs[124]? = some Tryd.f124 := Tryd.func124
abbrev f_strings_Builder_Reset : Nat := 125
theorem func_strings_Builder_Reset : Tryd.prog.funcs[125]? = some Tryd.f125 := Tryd.func125
abbrev f_internal_strconv_Error_Error : Nat := 126
theorem func_internal_strconv_Error_Error : Tryd.prog.funcs[126]? = some Tryd.f126 := Tryd.func126
abbrev f_strconv_NumError_Error : Nat := 127
theorem func_strconv_NumError_Error : Tryd.prog.funcs[127]? = some Tryd.f127 := Tryd.func127
abbrev f_errors_errorString_Error : Nat := 128
theorem func_errors_errorString_Error : Tryd.prog.funcs[128]? = some Tryd.f128 := Tryd.func128
abbrev f_internal_abi_Kind_String : Nat := 129
theorem func_internal_abi_Kind_String : Tryd.prog.funcs[129]? = some Tryd.f129 := Tryd.func129
abbrev f_var_s_door_gosem_cut_vars_holds_initialisers_alone_see_the_manifest_s_row_cutvarsword_look_11_test_files_too : Nat := 130
theorem func_var_s_door_gosem_cut_vars_holds_initialisers_alone_see_the_manifest_s_row_cutvarsword_look_11_test_files_too : Tryd.prog.funcs[130]? = some Tryd.f130 := Tryd.func130
abbrev f_var_s_door_internal_strconv_uint64pow10_is_laid_by_its_own_initialiser_plain_data_look_11 : Nat := 131
theorem func_var_s_door_internal_strconv_uint64pow10_is_laid_by_its_own_initialiser_plain_data_look_11 : Tryd.prog.funcs[131]? = some Tryd.f131 := Tryd.func131
abbrev f_var_s_door_math_bits_deBruijn32tab_is_laid_by_its_own_initialiser_plain_data_look_11 : Nat := 132
theorem func_var_s_door_math_bits_deBruijn32tab_is_laid_by_its_own_initialiser_plain_data_look_11 : Tryd.prog.funcs[132]? = some Tryd.f132 := Tryd.func132
abbrev f_var_s_door_math_bits_deBruijn64tab_is_laid_by_its_own_initialiser_plain_data_look_11 : Nat := 133
theorem func_var_s_door_math_bits_deBruijn64tab_is_laid_by_its_own_initialiser_plain_data_look_11 : Tryd.prog.funcs[133]? = some Tryd.f133 := Tryd.func133
abbrev f_var_s_door_strconv_ErrRange_is_laid_by_its_own_call_of_errors_New_on_one_literal_look_11 : Nat := 134
theorem func_var_s_door_strconv_ErrRange_is_laid_by_its_own_call_of_errors_New_on_one_literal_look_11 : Tryd.prog.funcs[134]? = some Tryd.f134 := Tryd.func134
abbrev f_var_s_door_strconv_ErrSyntax_is_laid_by_its_own_call_of_errors_New_on_one_literal_look_11 : Nat := 135
theorem func_var_s_door_strconv_ErrSyntax_is_laid_by_its_own_call_of_errors_New_on_one_literal_look_11 : Tryd.prog.funcs[135]? = some Tryd.f135 := Tryd.func135
abbrev f_var_s_door_the_look_of_gosem_cut_vars_went_over_the_folder_that_the_caller_named_as_the_repository_s_root_look_11 : Nat := 136
theorem func_var_s_door_the_look_of_gosem_cut_vars_went_over_the_folder_that_the_caller_named_as_the_repository_s_root_look_11 : Tryd.prog.funcs[136]? = some Tryd.f136 := Tryd.func136
end Go.Proofs.YtkncpdehgcldbaaDoor
