/- MADE BY PROGRAM (gen.py) out of this seat's translation: the types' table with its proof, the functions' and types' numbers under names, each function's way in. No statement of the seat is here. -/
import Derived.Test.YtnmmiiffeenjbaaProg
import Derived.Test.YtnmmiiffeenjbaaVec
namespace Go.Proofs.Ytnmmiiffeenjbaa
open Go Go.Eng Go.Proofs

def tbl : Tbl := [
  (3, ⟨.int .i64, 1, 8, .int .i64 0⟩),
  (4, ⟨.bool, 1, 1, .bool false⟩),
  (5, ⟨.int .u8, 1, 1, .int .u8 0⟩),
  (9, ⟨.str, 1, 16, .string ⟨⟨[]⟩⟩⟩),
  (22, ⟨.slice 9 1, 1, 24, .slice none 0 0⟩),
  (24, ⟨.ptr 43, 1, 8, .pointer none⟩),
  (26, ⟨.ptr 37, 1, 8, .pointer none⟩),
  (27, ⟨.int .i64, 1, 8, .int .i64 0⟩),
  (35, ⟨.struct [(0, 1)], 1, 8, .agg ⟨[.int .i64 0]⟩⟩),
  (37, ⟨.struct [(0, 1), (1, 1), (2, 1), (3, 1), (4, 1)], 5, 40, .agg ⟨[.int .i64 0, .pointer none, .string ⟨⟨[]⟩⟩, .bool false, .bool false]⟩⟩),
  (38, ⟨.map 3 3, 1, 8, .map none⟩),
  (40, ⟨.struct [(0, 1), (1, 1), (2, 1), (3, 1)], 4, 32, .agg ⟨[.map none, .int .i64 0, .int .i64 0, .bool false]⟩⟩),
  (41, ⟨.map 9 70, 1, 8, .map none⟩),
  (43, ⟨.struct [(0, 4), (4, 1)], 5, 40, .agg ⟨[.map none, .int .i64 0, .int .i64 0, .bool false, .map none]⟩⟩),
  (47, ⟨.slice 3 1, 1, 24, .slice none 0 0⟩),
  (52, ⟨.int .u64, 1, 8, .int .u64 0⟩),
  (55, ⟨.struct [(0, 1), (1, 1)], 2, 16, .agg ⟨[.int .i64 0, .int .i64 0]⟩⟩),
  (57, ⟨.slice 55 2, 1, 24, .slice none 0 0⟩),
  (63, ⟨.slice 22 1, 1, 24, .slice none 0 0⟩),
  (70, ⟨.struct [(0, 1), (1, 1)], 2, 24, .agg ⟨[.string ⟨⟨[]⟩⟩, .int .i64 0]⟩⟩),
  (81, ⟨.ptr 84, 1, 8, .pointer none⟩),
  (82, ⟨.slice 5 1, 1, 24, .slice none 0 0⟩),
  (84, ⟨.struct [(0, 1), (1, 1)], 2, 32, .agg ⟨[.pointer none, .slice none 0 0]⟩⟩),
  (86, ⟨.int .u32, 1, 4, .int .u32 0⟩),
  (97, ⟨.fn, 1, 8, .nilFunc⟩),
  (100, ⟨.ptr 5, 1, 8, .pointer none⟩),
  (109, ⟨.int .i64, 1, 8, .int .i64 0⟩),
  (119, ⟨.int .u64, 1, 8, .int .u64 0⟩),
  (120, ⟨.int .u64, 1, 8, .int .u64 0⟩),
  (124, ⟨.ptr 3, 1, 8, .pointer none⟩)]
theorem tblOk : TOk Try.prog tbl :=
  .cons ⟨by kernel_rfl, Try.underlying3⟩ (
  .cons ⟨by kernel_rfl, Try.underlying4⟩ (
  .cons ⟨by kernel_rfl, Try.underlying5⟩ (
  .cons ⟨by kernel_rfl, Try.underlying9⟩ (
  .cons ⟨by kernel_rfl, ⟨Try.underlying22, by kernel_rfl⟩⟩ (
  .cons ⟨by kernel_rfl, Try.underlying24⟩ (
  .cons ⟨by kernel_rfl, Try.underlying26⟩ (
  .cons ⟨by kernel_rfl, Try.underlying27⟩ (
  .cons ⟨by kernel_rfl, ⟨_, Try.underlying35, by kernel_rfl⟩⟩ (
  .cons ⟨by kernel_rfl, ⟨_, Try.underlying37, by kernel_rfl⟩⟩ (
  .cons ⟨by kernel_rfl, Try.underlying38⟩ (
  .cons ⟨by kernel_rfl, ⟨_, Try.underlying40, by kernel_rfl⟩⟩ (
  .cons ⟨by kernel_rfl, Try.underlying41⟩ (
  .cons ⟨by kernel_rfl, ⟨_, Try.underlying43, by kernel_rfl⟩⟩ (
  .cons ⟨by kernel_rfl, ⟨Try.underlying47, by kernel_rfl⟩⟩ (
  .cons ⟨by kernel_rfl, Try.underlying52⟩ (
  .cons ⟨by kernel_rfl, ⟨_, Try.underlying55, by kernel_rfl⟩⟩ (
  .cons ⟨by kernel_rfl, ⟨Try.underlying57, by kernel_rfl⟩⟩ (
  .cons ⟨by kernel_rfl, ⟨Try.underlying63, by kernel_rfl⟩⟩ (
  .cons ⟨by kernel_rfl, ⟨_, Try.underlying70, by kernel_rfl⟩⟩ (
  .cons ⟨by kernel_rfl, Try.underlying81⟩ (
  .cons ⟨by kernel_rfl, ⟨Try.underlying82, by kernel_rfl⟩⟩ (
  .cons ⟨by kernel_rfl, ⟨_, Try.underlying84, by kernel_rfl⟩⟩ (
  .cons ⟨by kernel_rfl, Try.underlying86⟩ (
  .cons ⟨by kernel_rfl, ⟨_, _, _, Try.underlying97⟩⟩ (
  .cons ⟨by kernel_rfl, Try.underlying100⟩ (
  .cons ⟨by kernel_rfl, Try.underlying109⟩ (
  .cons ⟨by kernel_rfl, Try.underlying119⟩ (
  .cons ⟨by kernel_rfl, Try.underlying120⟩ (
  .cons ⟨by kernel_rfl, Try.underlying124⟩ (
  .nil))))))))))))))))))))))))))))))
theorem mixed : Try.prog.follows .mixedOrders = true := by kernel_rfl
abbrev T_ : Nat := 0
abbrev T_func : Nat := 1
abbrev T_int64 : Nat := 2
abbrev T_int : Nat := 3
abbrev T_bool : Nat := 4
abbrev T_uint8 : Nat := 5
abbrev T_internal_abi_BoundsErrorCode : Nat := 6
abbrev T_struct_x_int64_y_int_signed_bool_code_abi_BoundsErrorCode : Nat := 7
abbrev T_runtime_boundsError : Nat := 8
abbrev T_string : Nat := 9
abbrev T_runtime_errorString : Nat := 10
abbrev T_runtime_plainError : Nat := 11
abbrev T_uintptr : Nat := 12
abbrev T_struct_msg_string_addr_uintptr : Nat := 13
abbrev T_runtime_errorAddressString : Nat := 14
abbrev T_Ptr_runtime_TypeAssertionError : Nat := 15
abbrev T_Ptr_runtime_PanicNilError : Nat := 16
abbrev T_Ptr_abi_Type : Nat := 17
abbrev T_struct_typ_Ptr_abi_Type : Nat := 18
abbrev T_internal_runtime_maps_unhashableTypeError : Nat := 19
abbrev T_interface : Nat := 20
abbrev T_int32 : Nat := 21
abbrev T_Sl_string : Nat := 22
abbrev T_func_bool : Nat := 23
abbrev T_Ptr_vfs_FS : Nat := 24
abbrev T_func_Ptr_vfs_FS : Nat := 25
abbrev T_Ptr_wal_Log : Nat := 26
abbrev T_api_Errno : Nat := 27
abbrev T_Ptr_wal_Log_Sl_string_api_Errno : Nat := 28
abbrev T_func_Ptr_vfs_FS_string_Ptr_wal_Log_Sl_string_api_Errno : Nat := 29
abbrev T_func_string_api_Errno : Nat := 30
abbrev T_string_api_Errno : Nat := 31
abbrev T_func_string_string_api_Errno : Nat := 32
abbrev T_func_int : Nat := 33
abbrev T_struct_n_int : Nat := 34
abbrev T_wal_tally : Nat := 35
abbrev T_struct_wal_tally_f_Ptr_vfs_FS_name_string_torn_bool_dead_bool : Nat := 36
abbrev T_wal_Log : Nat := 37
abbrev T_map_int_int : Nat := 38
abbrev T_struct_fates_map_int_int_armed_int_acts_int_off_bool : Nat := 39
abbrev T_vfs_power : Nat := 40
abbrev T_map_string_vfs_file : Nat := 41
abbrev T_struct_vfs_power_files_map_string_vfs_file : Nat := 42
abbrev T_vfs_FS : Nat := 43
abbrev T_func_Sl_string_bool : Nat := 44
abbrev T_func_Ptr_vfs_FS_string_string_api_Errno : Nat := 45
abbrev T_func_Sl_string_Sl_string_bool : Nat := 46
abbrev T_Sl_int : Nat := 47
abbrev T_func_int_Ptr_vfs_FS : Nat := 50
abbrev T_func_Sl_string_Sl_int_Sl_int_bool : Nat := 51
abbrev T_uint : Nat := 52
abbrev T_func_api_Fate : Nat := 53
abbrev T_struct_At_int_Kind_int : Nat := 54
abbrev T_api_Fate : Nat := 55
abbrev T_func_Sl_string_int_bool_bool : Nat := 56
abbrev T_Sl_api_Fate : Nat := 57
abbrev T_func_Sl_string_Sl_int_bool : Nat := 58
abbrev T_Sl_string_api_Errno : Nat := 60
abbrev T_func_Sl_string_api_Errno : Nat := 61
abbrev T_func_string_string_string_bool : Nat := 62
abbrev T_Sl_Sl_string : Nat := 63
abbrev T_func_Sl_Sl_string_Sl_api_Fate_int_bool : Nat := 64
abbrev T_func_Sl_Sl_string_string_int_bool : Nat := 65
abbrev T_Sl_string_int : Nat := 66
abbrev T_func_string_Sl_string_int : Nat := 67
abbrev T_struct_text_string_safe_int : Nat := 69
abbrev T_vfs_file : Nat := 70
abbrev T_vfs_file_api_Errno : Nat := 71
abbrev T_func_string_vfs_file_api_Errno : Nat := 72
abbrev T_Ptr_wal_tally : Nat := 73
abbrev T_Ptr_vfs_power : Nat := 74
abbrev T_func_string_bool : Nat := 75
abbrev T_func_Sl_string_string_string : Nat := 76
abbrev T_func_api_Errno : Nat := 77
abbrev T_func_Sl_string : Nat := 78
abbrev T_string_int_api_Errno : Nat := 79
abbrev T_func_string_int_string_int_api_Errno : Nat := 80
abbrev T_Ptr_strings_Builder : Nat := 81
abbrev T_Sl_uint8 : Nat := 82
abbrev T_struct_addr_Ptr_strings_Builder_buf_Sl_uint8 : Nat := 83
abbrev T_strings_Builder : Nat := 84
abbrev T_func_uint32_string : Nat := 85
abbrev T_uint32 : Nat := 86
abbrev T_interface_Error_string : Nat := 87
abbrev T_error : Nat := 88
abbrev T_int_error : Nat := 89
abbrev T_func_string_int_error : Nat := 90
abbrev T_func_string_uint32 : Nat := 91
abbrev T_func_string : Nat := 92
abbrev T_vfs_file_bool : Nat := 93
abbrev T_func_iter_Seq_string_Sl_string : Nat := 95
abbrev T_func_func_string_bool : Nat := 96
abbrev T_iter_Seq_string : Nat := 97
abbrev T_func_map_string_vfs_file_iter_Seq_string : Nat := 98
abbrev T_Ptr_uint8 : Nat := 100
abbrev T_unsafe_Pointer : Nat := 102
abbrev T_func_unsafe_Pointer_unsafe_Pointer : Nat := 103
abbrev T_func_int_Sl_uint8 : Nat := 104
abbrev T_func_Sl_string_iter_Seq_string_Sl_string : Nat := 105
abbrev T_func_Sl_string_int_int_int : Nat := 106
abbrev T_func_uint_int : Nat := 107
abbrev T_func_Sl_string_int_int : Nat := 108
abbrev T_slices_sortedHint : Nat := 109
abbrev T_int_slices_sortedHint : Nat := 110
abbrev T_func_Sl_string_int_int_int_slices_sortedHint : Nat := 111
abbrev T_func_Sl_string_int_int_bool : Nat := 112
abbrev T_func_string_string_bool : Nat := 113
abbrev T_func_Sl_string_int_int_int_int : Nat := 114
abbrev T_int_bool : Nat := 115
abbrev T_func_Sl_string_int_int_int_int_bool : Nat := 116
abbrev T_func_uint32_int : Nat := 117
abbrev T_func_uint64_int : Nat := 118
abbrev T_uint64 : Nat := 119
abbrev T_slices_xorshift : Nat := 120
abbrev T_func_int_uint : Nat := 121
abbrev T_func_uint64 : Nat := 122
abbrev T_func_Sl_string_int_Ptr_int_int : Nat := 123
abbrev T_Ptr_int : Nat := 124
abbrev T_func_Sl_string_int_int_int_Ptr_int_int : Nat := 125
abbrev T_Ptr_slices_xorshift : Nat := 126
abbrev T_int_int : Nat := 127
abbrev T_func_Sl_string_int_int_Ptr_int_int_int : Nat := 128
abbrev T_struct_interface_Ptr_abi_Type_concrete_Ptr_abi_Type_asserted_Ptr_abi_Type_missingMethod_string : Nat := 129
abbrev T_runtime_TypeAssertionError : Nat := 130
abbrev T_0_Ptr_runtime_PanicNilError : Nat := 131
abbrev T_struct_0_Ptr_runtime_PanicNilError : Nat := 132
abbrev T_runtime_PanicNilError : Nat := 133
abbrev T_internal_abi_TFlag : Nat := 134
abbrev T_internal_abi_Kind : Nat := 135
abbrev T_func_unsafe_Pointer_unsafe_Pointer_bool : Nat := 136
abbrev T_internal_abi_NameOff : Nat := 137
abbrev T_internal_abi_TypeOff : Nat := 138
abbrev T_struct_Size_uintptr_PtrBytes_uintptr_Hash_uint32_TFlag_abi_TFlag_Align_uint8_FieldAlign_uint8_Kind_abi_Kind_Equal_func_unsafe_Pointer_unsafe_Pointer_bool_GCData_Ptr_uint8_Str_abi_NameOff_PtrToThis_abi_TypeOff : Nat := 139
abbrev T_internal_abi_Type : Nat := 140
abbrev f_main_main : Nat := 0
theorem func_main_main : Try.prog.funcs[0]? = some Try.f0 := Try.func0
abbrev f_gosem_cut : Nat := 1
theorem func_gosem_cut : Try.prog.funcs[1]? = some Try.f1 := Try.func1
abbrev f_tarmaclaw05_WalEach : Nat := 3
theorem en_tarmaclaw05_WalEach {args : List Value} {w : World} {R : Value → World → Prop} (hlen : Nat.ble args.length 114 = true) (h : SemW Try.prog 114 (Try.f3.body.getD .skip) (retQ tbl [.tmp 2] R) (argEnv 0 args) w) : Cl Try.prog 3 args w R :=
  Cl.enter tblOk Try.call3 Try.func3 Try.ntmps3 rfl Try.results3 hlen h
abbrev f_tarmaclaw05_WalMemory : Nat := 4
theorem en_tarmaclaw05_WalMemory {args : List Value} {w : World} {R : Value → World → Prop} (hlen : Nat.ble args.length 88 = true) (h : SemW Try.prog 88 (Try.f4.body.getD .skip) (retQ tbl [.tmp 2] R) (argEnv 0 args) w) : Cl Try.prog 4 args w R :=
  Cl.enter tblOk Try.call4 Try.func4 Try.ntmps4 rfl Try.results4 hlen h
abbrev f_tarmaclaw04_VfsKeeps : Nat := 5
theorem en_tarmaclaw04_VfsKeeps {args : List Value} {w : World} {R : Value → World → Prop} (hlen : Nat.ble args.length 143 = true) (h : SemW Try.prog 143 (Try.f5.body.getD .skip) (retQ tbl [.tmp 6] R) (argEnv 0 args) w) : Cl Try.prog 5 args w R :=
  Cl.enter tblOk Try.call5 Try.func5 Try.ntmps5 rfl Try.results5 hlen h
abbrev f_tarmaclaw04_VfsPower : Nat := 6
theorem en_tarmaclaw04_VfsPower {args : List Value} {w : World} {R : Value → World → Prop} (hlen : Nat.ble args.length 126 = true) (h : SemW Try.prog 126 (Try.f6.body.getD .skip) (retQ tbl [.tmp 6] R) (argEnv 0 args) w) : Cl Try.prog 6 args w R :=
  Cl.enter tblOk Try.call6 Try.func6 Try.ntmps6 rfl Try.results6 hlen h
abbrev f_tarmaclaw04_VfsSpace : Nat := 7
theorem en_tarmaclaw04_VfsSpace {args : List Value} {w : World} {R : Value → World → Prop} (hlen : Nat.ble args.length 105 = true) (h : SemW Try.prog 105 (Try.f7.body.getD .skip) (retQ tbl [.tmp 4] R) (argEnv 0 args) w) : Cl Try.prog 7 args w R :=
  Cl.enter tblOk Try.call7 Try.func7 Try.ntmps7 rfl Try.results7 hlen h
abbrev f_tarmaclaw04_VfsMoves : Nat := 8
theorem en_tarmaclaw04_VfsMoves {args : List Value} {w : World} {R : Value → World → Prop} (hlen : Nat.ble args.length 134 = true) (h : SemW Try.prog 134 (Try.f8.body.getD .skip) (retQ tbl [.tmp 6] R) (argEnv 0 args) w) : Cl Try.prog 8 args w R :=
  Cl.enter tblOk Try.call8 Try.func8 Try.ntmps8 rfl Try.results8 hlen h
abbrev f_tarmaclaw05_WalLasts : Nat := 9
theorem en_tarmaclaw05_WalLasts {args : List Value} {w : World} {R : Value → World → Prop} (hlen : Nat.ble args.length 118 = true) (h : SemW Try.prog 118 (Try.f9.body.getD .skip) (retQ tbl [.tmp 6] R) (argEnv 0 args) w) : Cl Try.prog 9 args w R :=
  Cl.enter tblOk Try.call9 Try.func9 Try.ntmps9 rfl Try.results9 hlen h
abbrev f_tarmaclaw05_WalMends : Nat := 10
theorem en_tarmaclaw05_WalMends {args : List Value} {w : World} {R : Value → World → Prop} (hlen : Nat.ble args.length 163 = true) (h : SemW Try.prog 163 (Try.f10.body.getD .skip) (retQ tbl [.tmp 6] R) (argEnv 0 args) w) : Cl Try.prog 10 args w R :=
  Cl.enter tblOk Try.call10 Try.func10 Try.ntmps10 rfl Try.results10 hlen h
abbrev f_tarmaclaw05_lives : Nat := 11
theorem en_tarmaclaw05_lives {args : List Value} {w : World} {R : Value → World → Prop} (hlen : Nat.ble args.length 68 = true) (h : SemW Try.prog 68 (Try.f11.body.getD .skip) (retQ tbl [.tmp 0] R) (argEnv 0 args) w) : Cl Try.prog 11 args w R :=
  Cl.enter tblOk Try.call11 Try.func11 Try.ntmps11 rfl Try.results11 hlen h
abbrev f_vfs_New : Nat := 12
theorem en_vfs_New {args : List Value} {w : World} {R : Value → World → Prop} (hlen : Nat.ble args.length 4 = true) (h : SemW Try.prog 4 (Try.f12.body.getD .skip) (retQ tbl [.tmp 0] R) (argEnv 0 args) w) : Cl Try.prog 12 args w R :=
  Cl.enter tblOk Try.call12 Try.func12 Try.ntmps12 rfl Try.results12 hlen h
abbrev f_wal_Open : Nat := 13
theorem en_wal_Open {args : List Value} {w : World} {R : Value → World → Prop} (hlen : Nat.ble args.length 47 = true) (h : SemW Try.prog 47 (Try.f13.body.getD .skip) (retQ tbl [.tmp 4, .tmp 5, .tmp 6] R) (argEnv 0 args) w) : Cl Try.prog 13 args w R :=
  Cl.enter tblOk Try.call13 Try.func13 Try.ntmps13 rfl Try.results13 hlen h
abbrev f_wal_Log_Append : Nat := 14
theorem en_wal_Log_Append {args : List Value} {w : World} {R : Value → World → Prop} (hlen : Nat.ble args.length 85 = true) (h : SemW Try.prog 85 (Try.f14.body.getD .skip) (retQ tbl [.tmp 4] R) (argEnv 0 args) w) : Cl Try.prog 14 args w R :=
  Cl.enter tblOk Try.call14 Try.func14 Try.ntmps14 rfl Try.results14 hlen h
abbrev f_vfs_FS_Read : Nat := 15
theorem en_vfs_FS_Read {args : List Value} {w : World} {R : Value → World → Prop} (hlen : Nat.ble args.length 17 = true) (h : SemW Try.prog 17 (Try.f15.body.getD .skip) (retQ tbl [.tmp 4, .tmp 5] R) (argEnv 0 args) w) : Cl Try.prog 15 args w R :=
  Cl.enter tblOk Try.call15 Try.func15 Try.ntmps15 rfl Try.results15 hlen h
abbrev f_wal_tally_Count : Nat := 16
theorem en_wal_tally_Count {args : List Value} {w : World} {R : Value → World → Prop} (hlen : Nat.ble args.length 7 = true) (h : SemW Try.prog 7 (Try.f16.body.getD .skip) (retQ tbl [.tmp 2] R) (argEnv 0 args) w) : Cl Try.prog 16 args w R :=
  Cl.enter tblOk Try.call16 Try.func16 Try.ntmps16 rfl Try.results16 hlen h
abbrev f_vfs_power_Acts : Nat := 17
theorem en_vfs_power_Acts {args : List Value} {w : World} {R : Value → World → Prop} (hlen : Nat.ble args.length 7 = true) (h : SemW Try.prog 7 (Try.f17.body.getD .skip) (retQ tbl [.tmp 2] R) (argEnv 0 args) w) : Cl Try.prog 17 args w R :=
  Cl.enter tblOk Try.call17 Try.func17 Try.ntmps17 rfl Try.results17 hlen h
abbrev f_wal_Rewrite : Nat := 18
theorem en_wal_Rewrite {args : List Value} {w : World} {R : Value → World → Prop} (hlen : Nat.ble args.length 40 = true) (h : SemW Try.prog 40 (Try.f18.body.getD .skip) (retQ tbl [.tmp 6] R) (argEnv 0 args) w) : Cl Try.prog 18 args w R :=
  Cl.enter tblOk Try.call18 Try.func18 Try.ntmps18 rfl Try.results18 hlen h
abbrev f_tarmacref01_Same : Nat := 19
theorem en_tarmacref01_Same {args : List Value} {w : World} {R : Value → World → Prop} (hlen : Nat.ble args.length 26 = true) (h : SemW Try.prog 26 (Try.f19.body.getD .skip) (retQ tbl [.tmp 4] R) (argEnv 0 args) w) : Cl Try.prog 19 args w R :=
  Cl.enter tblOk Try.call19 Try.func19 Try.ntmps19 rfl Try.results19 hlen h
abbrev f_tarmaclaw04_lives : Nat := 20
theorem en_tarmaclaw04_lives {args : List Value} {w : World} {R : Value → World → Prop} (hlen : Nat.ble args.length 55 = true) (h : SemW Try.prog 55 (Try.f20.body.getD .skip) (retQ tbl [.tmp 0] R) (argEnv 0 args) w) : Cl Try.prog 20 args w R :=
  Cl.enter tblOk Try.call20 Try.func20 Try.ntmps20 rfl Try.results20 hlen h
abbrev f_vfs_FS_Append : Nat := 21
theorem en_vfs_FS_Append {args : List Value} {w : World} {R : Value → World → Prop} (hlen : Nat.ble args.length 48 = true) (h : SemW Try.prog 48 (Try.f21.body.getD .skip) (retQ tbl [.tmp 6] R) (argEnv 0 args) w) : Cl Try.prog 21 args w R :=
  Cl.enter tblOk Try.call21 Try.func21 Try.ntmps21 rfl Try.results21 hlen h
abbrev f_vfs_FS_Sync : Nat := 22
theorem en_vfs_FS_Sync {args : List Value} {w : World} {R : Value → World → Prop} (hlen : Nat.ble args.length 35 = true) (h : SemW Try.prog 35 (Try.f22.body.getD .skip) (retQ tbl [.tmp 4] R) (argEnv 0 args) w) : Cl Try.prog 22 args w R :=
  Cl.enter tblOk Try.call22 Try.func22 Try.ntmps22 rfl Try.results22 hlen h
abbrev f_vfs_FS_Crash : Nat := 23
theorem en_vfs_FS_Crash {args : List Value} {w : World} {R : Value → World → Prop} (hlen : Nat.ble args.length 59 = true) (h : SemW Try.prog 59 (Try.f23.body.getD .skip) (retQ tbl [.tmp 4] R) (argEnv 0 args) w) : Cl Try.prog 23 args w R :=
  Cl.enter tblOk Try.call23 Try.func23 Try.ntmps23 rfl Try.results23 hlen h
abbrev f_vfs_power_Down : Nat := 24
theorem en_vfs_power_Down {args : List Value} {w : World} {R : Value → World → Prop} (hlen : Nat.ble args.length 7 = true) (h : SemW Try.prog 7 (Try.f24.body.getD .skip) (retQ tbl [.tmp 2] R) (argEnv 0 args) w) : Cl Try.prog 24 args w R :=
  Cl.enter tblOk Try.call24 Try.func24 Try.ntmps24 rfl Try.results24 hlen h
abbrev f_vfs_power_Arm : Nat := 25
theorem en_vfs_power_Arm {args : List Value} {w : World} {R : Value → World → Prop} (hlen : Nat.ble args.length 46 = true) (h : SemW Try.prog 46 (Try.f25.body.getD .skip) (retQ tbl [] R) (argEnv 0 args) w) : Cl Try.prog 25 args w R :=
  Cl.enter tblOk Try.call25 Try.func25 Try.ntmps25 rfl Try.results25 hlen h
abbrev f_vfs_FS_Rename : Nat := 26
theorem en_vfs_FS_Rename {args : List Value} {w : World} {R : Value → World → Prop} (hlen : Nat.ble args.length 49 = true) (h : SemW Try.prog 49 (Try.f26.body.getD .skip) (retQ tbl [.tmp 6] R) (argEnv 0 args) w) : Cl Try.prog 26 args w R :=
  Cl.enter tblOk Try.call26 Try.func26 Try.ntmps26 rfl Try.results26 hlen h
abbrev f_vfs_FS_Delete : Nat := 27
theorem en_vfs_FS_Delete {args : List Value} {w : World} {R : Value → World → Prop} (hlen : Nat.ble args.length 30 = true) (h : SemW Try.prog 30 (Try.f27.body.getD .skip) (retQ tbl [.tmp 4] R) (argEnv 0 args) w) : Cl Try.prog 27 args w R :=
  Cl.enter tblOk Try.call27 Try.func27 Try.ntmps27 rfl Try.results27 hlen h
abbrev f_vfs_FS_List : Nat := 28
theorem en_vfs_FS_List {args : List Value} {w : World} {R : Value → World → Prop} (hlen : Nat.ble args.length 11 = true) (h : SemW Try.prog 11 (Try.f28.body.getD .skip) (retQ tbl [.tmp 2, .tmp 3] R) (argEnv 0 args) w) : Cl Try.prog 28 args w R :=
  Cl.enter tblOk Try.call28 Try.func28 Try.ntmps28 rfl Try.results28 hlen h
abbrev f_wal_Log_Torn : Nat := 29
theorem en_wal_Log_Torn {args : List Value} {w : World} {R : Value → World → Prop} (hlen : Nat.ble args.length 7 = true) (h : SemW Try.prog 7 (Try.f29.body.getD .skip) (retQ tbl [.tmp 2] R) (argEnv 0 args) w) : Cl Try.prog 29 args w R :=
  Cl.enter tblOk Try.call29 Try.func29 Try.ntmps29 rfl Try.results29 hlen h
abbrev f_frame_Scan : Nat := 30
theorem en_frame_Scan {args : List Value} {w : World} {R : Value → World → Prop} (hlen : Nat.ble args.length 25 = true) (h : SemW Try.prog 25 (Try.f30.body.getD .skip) (retQ tbl [.tmp 2, .tmp 3] R) (argEnv 0 args) w) : Cl Try.prog 30 args w R :=
  Cl.enter tblOk Try.call30 Try.func30 Try.ntmps30 rfl Try.results30 hlen h
abbrev f_frame_Seal : Nat := 31
theorem en_frame_Seal {args : List Value} {w : World} {R : Value → World → Prop} (hlen : Nat.ble args.length 33 = true) (h : SemW Try.prog 33 (Try.f31.body.getD .skip) (retQ tbl [.tmp 2, .tmp 3] R) (argEnv 0 args) w) : Cl Try.prog 31 args w R :=
  Cl.enter tblOk Try.call31 Try.func31 Try.ntmps31 rfl Try.results31 hlen h
abbrev f_vfs_FS_find : Nat := 32
theorem en_vfs_FS_find {args : List Value} {w : World} {R : Value → World → Prop} (hlen : Nat.ble args.length 29 = true) (h : SemW Try.prog 29 (Try.f32.body.getD .skip) (retQ tbl [.cell 4 70, .tmp 5] R) (argEnv 0 args) w) : Cl Try.prog 32 args w R :=
  Cl.enter tblOk Try.call32 Try.func32 Try.ntmps32 rfl Try.results32 hlen h
abbrev f_vfs_named : Nat := 33
theorem en_vfs_named {args : List Value} {w : World} {R : Value → World → Prop} (hlen : Nat.ble args.length 10 = true) (h : SemW Try.prog 10 (Try.f33.body.getD .skip) (retQ tbl [.tmp 2] R) (argEnv 0 args) w) : Cl Try.prog 33 args w R :=
  Cl.enter tblOk Try.call33 Try.func33 Try.ntmps33 rfl Try.results33 hlen h
abbrev f_vfs_power_act : Nat := 34
theorem en_vfs_power_act {args : List Value} {w : World} {R : Value → World → Prop} (hlen : Nat.ble args.length 37 = true) (h : SemW Try.prog 37 (Try.f34.body.getD .skip) (retQ tbl [.tmp 2] R) (argEnv 0 args) w) : Cl Try.prog 34 args w R :=
  Cl.enter tblOk Try.call34 Try.func34 Try.ntmps34 rfl Try.results34 hlen h
abbrev f_strings_Join : Nat := 35
theorem en_strings_Join {args : List Value} {w : World} {R : Value → World → Prop} (hlen : Nat.ble args.length 75 = true) (h : SemW Try.prog 75 (Try.f35.body.getD .skip) (retQ tbl [.tmp 4] R) (argEnv 0 args) w) : Cl Try.prog 35 args w R :=
  Cl.enter tblOk Try.call35 Try.func35 Try.ntmps35 rfl Try.results35 hlen h
abbrev f_vfs_power_done : Nat := 36
theorem en_vfs_power_done {args : List Value} {w : World} {R : Value → World → Prop} (hlen : Nat.ble args.length 7 = true) (h : SemW Try.prog 7 (Try.f36.body.getD .skip) (retQ tbl [.tmp 2] R) (argEnv 0 args) w) : Cl Try.prog 36 args w R :=
  Cl.enter tblOk Try.call36 Try.func36 Try.ntmps36 rfl Try.results36 hlen h
abbrev f_vfs_FS_names : Nat := 37
theorem en_vfs_FS_names {args : List Value} {w : World} {R : Value → World → Prop} (hlen : Nat.ble args.length 9 = true) (h : SemW Try.prog 9 (Try.f37.body.getD .skip) (retQ tbl [.tmp 2] R) (argEnv 0 args) w) : Cl Try.prog 37 args w R :=
  Cl.enter tblOk Try.call37 Try.func37 Try.ntmps37 rfl Try.results37 hlen h
abbrev f_frame_First : Nat := 38
theorem en_frame_First {args : List Value} {w : World} {R : Value → World → Prop} (hlen : Nat.ble args.length 54 = true) (h : SemW Try.prog 54 (Try.f38.body.getD .skip) (retQ tbl [.tmp 4, .tmp 5, .tmp 6] R) (argEnv 0 args) w) : Cl Try.prog 38 args w R :=
  Cl.enter tblOk Try.call38 Try.func38 Try.ntmps38 rfl Try.results38 hlen h
abbrev f_frame_four : Nat := 39
theorem en_frame_four {args : List Value} {w : World} {R : Value → World → Prop} (hlen : Nat.ble args.length 16 = true) (h : SemW Try.prog 16 (Try.f39.body.getD .skip) (retQ tbl [.tmp 2] R) (argEnv 0 args) w) : Cl Try.prog 39 args w R :=
  Cl.enter tblOk Try.call39 Try.func39 Try.ntmps39 rfl Try.results39 hlen h
abbrev f_strings_Builder_WriteString : Nat := 40
theorem en_strings_Builder_WriteString {args : List Value} {w : World} {R : Value → World → Prop} (hlen : Nat.ble args.length 19 = true) (h : SemW Try.prog 19 (Try.f40.body.getD .skip) (retQ tbl [.tmp 4, .tmp 5] R) (argEnv 0 args) w) : Cl Try.prog 40 args w R :=
  Cl.enter tblOk Try.call40 Try.func40 Try.ntmps40 rfl Try.results40 hlen h
abbrev f_frame_Sum : Nat := 41
theorem en_frame_Sum {args : List Value} {w : World} {R : Value → World → Prop} (hlen : Nat.ble args.length 38 = true) (h : SemW Try.prog 38 (Try.f41.body.getD .skip) (retQ tbl [.tmp 2] R) (argEnv 0 args) w) : Cl Try.prog 41 args w R :=
  Cl.enter tblOk Try.call41 Try.func41 Try.ntmps41 rfl Try.results41 hlen h
abbrev f_strings_Builder_String : Nat := 42
theorem en_strings_Builder_String {args : List Value} {w : World} {R : Value → World → Prop} (hlen : Nat.ble args.length 14 = true) (h : SemW Try.prog 14 (Try.f42.body.getD .skip) (retQ tbl [.tmp 2] R) (argEnv 0 args) w) : Cl Try.prog 42 args w R :=
  Cl.enter tblOk Try.call42 Try.func42 Try.ntmps42 rfl Try.results42 hlen h
abbrev f_strings_Builder_Grow : Nat := 43
theorem en_strings_Builder_Grow {args : List Value} {w : World} {R : Value → World → Prop} (hlen : Nat.ble args.length 25 = true) (h : SemW Try.prog 25 (Try.f43.body.getD .skip) (retQ tbl [] R) (argEnv 0 args) w) : Cl Try.prog 43 args w R :=
  Cl.enter tblOk Try.call43 Try.func43 Try.ntmps43 rfl Try.results43 hlen h
abbrev f_slices_Sorted_string : Nat := 44
theorem en_slices_Sorted_string {args : List Value} {w : World} {R : Value → World → Prop} (hlen : Nat.ble args.length 9 = true) (h : SemW Try.prog 9 (Try.f44.body.getD .skip) (retQ tbl [.tmp 2] R) (argEnv 0 args) w) : Cl Try.prog 44 args w R :=
  Cl.enter tblOk Try.call44 Try.func44 Try.ntmps44 rfl Try.results44 hlen h
abbrev f_maps_Keys_map_string_vfs_file_string_vfs_file : Nat := 45
theorem en_maps_Keys_map_string_vfs_file_string_vfs_file {args : List Value} {w : World} {R : Value → World → Prop} (hlen : Nat.ble args.length 4 = true) (h : SemW Try.prog 4 (Try.f45.body.getD .skip) (retQ tbl [.tmp 2] R) (argEnv 0 args) w) : Cl Try.prog 45 args w R :=
  Cl.enter tblOk Try.call45 Try.func45 Try.ntmps45 rfl Try.results45 hlen h
abbrev f_frame_number : Nat := 46
theorem en_frame_number {args : List Value} {w : World} {R : Value → World → Prop} (hlen : Nat.ble args.length 21 = true) (h : SemW Try.prog 21 (Try.f46.body.getD .skip) (retQ tbl [.tmp 2] R) (argEnv 0 args) w) : Cl Try.prog 46 args w R :=
  Cl.enter tblOk Try.call46 Try.func46 Try.ntmps46 rfl Try.results46 hlen h
abbrev f_strings_Builder_copyCheck : Nat := 47
theorem en_strings_Builder_copyCheck {args : List Value} {w : World} {R : Value → World → Prop} (hlen : Nat.ble args.length 20 = true) (h : SemW Try.prog 20 (Try.f47.body.getD .skip) (retQ tbl [] R) (argEnv 0 args) w) : Cl Try.prog 47 args w R :=
  Cl.enter tblOk Try.call47 Try.func47 Try.ntmps47 rfl Try.results47 hlen h
abbrev f_strings_Builder_grow : Nat := 48
theorem en_strings_Builder_grow {args : List Value} {w : World} {R : Value → World → Prop} (hlen : Nat.ble args.length 30 = true) (h : SemW Try.prog 30 (Try.f48.body.getD .skip) (retQ tbl [] R) (argEnv 0 args) w) : Cl Try.prog 48 args w R :=
  Cl.enter tblOk Try.call48 Try.func48 Try.ntmps48 rfl Try.results48 hlen h
abbrev f_slices_Collect_string : Nat := 49
theorem en_slices_Collect_string {args : List Value} {w : World} {R : Value → World → Prop} (hlen : Nat.ble args.length 5 = true) (h : SemW Try.prog 5 (Try.f49.body.getD .skip) (retQ tbl [.tmp 2] R) (argEnv 0 args) w) : Cl Try.prog 49 args w R :=
  Cl.enter tblOk Try.call49 Try.func49 Try.ntmps49 rfl Try.results49 hlen h
abbrev f_slices_Sort_string_string : Nat := 50
theorem en_slices_Sort_string_string {args : List Value} {w : World} {R : Value → World → Prop} (hlen : Nat.ble args.length 11 = true) (h : SemW Try.prog 11 (Try.f50.body.getD .skip) (retQ tbl [] R) (argEnv 0 args) w) : Cl Try.prog 50 args w R :=
  Cl.enter tblOk Try.call50 Try.func50 Try.ntmps50 rfl Try.results50 hlen h
abbrev f_maps_Keys_map_string_vfs_file_string_vfs_file_1 : Nat := 51
theorem en_maps_Keys_map_string_vfs_file_string_vfs_file_1 {args : List Value} {w : World} {R : Value → World → Prop} (hlen : Nat.ble args.length 14 = true) (h : SemW Try.prog 14 (Try.f51.body.getD .skip) (retQ tbl [] R) (argEnv 0 args) w) : Cl Try.prog 51 args w R :=
  Cl.enter tblOk Try.call51 Try.func51 Try.ntmps51 rfl Try.results51 hlen h
abbrev f_internal_abi_NoEscape : Nat := 52
theorem func_internal_abi_NoEscape : Try.prog.funcs[52]? = some Try.f52 := Try.func52
abbrev f_internal_bytealg_MakeNoZero : Nat := 53
theorem func_internal_bytealg_MakeNoZero : Try.prog.funcs[53]? = some Try.f53 := Try.func53
abbrev f_slices_AppendSeq_string_string : Nat := 54
theorem en_slices_AppendSeq_string_string {args : List Value} {w : World} {R : Value → World → Prop} (hlen : Nat.ble args.length 13 = true) (h : SemW Try.prog 13 (Try.f54.body.getD .skip) (retQ tbl [.tmp 4] R) (argEnv 0 args) w) : Cl Try.prog 54 args w R :=
  Cl.enter tblOk Try.call54 Try.func54 Try.ntmps54 rfl Try.results54 hlen h
abbrev f_slices_pdqsortOrdered_string : Nat := 55
theorem en_slices_pdqsortOrdered_string {args : List Value} {w : World} {R : Value → World → Prop} (hlen : Nat.ble args.length 134 = true) (h : SemW Try.prog 134 (Try.f55.body.getD .skip) (retQ tbl [] R) (argEnv 0 args) w) : Cl Try.prog 55 args w R :=
  Cl.enter tblOk Try.call55 Try.func55 Try.ntmps55 rfl Try.results55 hlen h
abbrev f_math_bits_Len : Nat := 56
theorem en_math_bits_Len {args : List Value} {w : World} {R : Value → World → Prop} (hlen : Nat.ble args.length 8 = true) (h : SemW Try.prog 8 (Try.f56.body.getD .skip) (retQ tbl [.tmp 2] R) (argEnv 0 args) w) : Cl Try.prog 56 args w R :=
  Cl.enter tblOk Try.call56 Try.func56 Try.ntmps56 rfl Try.results56 hlen h
abbrev f_slices_insertionSortOrdered_string : Nat := 57
theorem en_slices_insertionSortOrdered_string {args : List Value} {w : World} {R : Value → World → Prop} (hlen : Nat.ble args.length 49 = true) (h : SemW Try.prog 49 (Try.f57.body.getD .skip) (retQ tbl [] R) (argEnv 0 args) w) : Cl Try.prog 57 args w R :=
  Cl.enter tblOk Try.call57 Try.func57 Try.ntmps57 rfl Try.results57 hlen h
abbrev f_slices_heapSortOrdered_string : Nat := 58
theorem en_slices_heapSortOrdered_string {args : List Value} {w : World} {R : Value → World → Prop} (hlen : Nat.ble args.length 56 = true) (h : SemW Try.prog 56 (Try.f58.body.getD .skip) (retQ tbl [] R) (argEnv 0 args) w) : Cl Try.prog 58 args w R :=
  Cl.enter tblOk Try.call58 Try.func58 Try.ntmps58 rfl Try.results58 hlen h
abbrev f_slices_breakPatternsOrdered_string : Nat := 59
theorem en_slices_breakPatternsOrdered_string {args : List Value} {w : World} {R : Value → World → Prop} (hlen : Nat.ble args.length 65 = true) (h : SemW Try.prog 65 (Try.f59.body.getD .skip) (retQ tbl [] R) (argEnv 0 args) w) : Cl Try.prog 59 args w R :=
  Cl.enter tblOk Try.call59 Try.func59 Try.ntmps59 rfl Try.results59 hlen h
abbrev f_slices_choosePivotOrdered_string : Nat := 60
theorem en_slices_choosePivotOrdered_string {args : List Value} {w : World} {R : Value → World → Prop} (hlen : Nat.ble args.length 57 = true) (h : SemW Try.prog 57 (Try.f60.body.getD .skip) (retQ tbl [.tmp 6, .tmp 7] R) (argEnv 0 args) w) : Cl Try.prog 60 args w R :=
  Cl.enter tblOk Try.call60 Try.func60 Try.ntmps60 rfl Try.results60 hlen h
abbrev f_slices_reverseRangeOrdered_string : Nat := 61
theorem en_slices_reverseRangeOrdered_string {args : List Value} {w : World} {R : Value → World → Prop} (hlen : Nat.ble args.length 32 = true) (h : SemW Try.prog 32 (Try.f61.body.getD .skip) (retQ tbl [] R) (argEnv 0 args) w) : Cl Try.prog 61 args w R :=
  Cl.enter tblOk Try.call61 Try.func61 Try.ntmps61 rfl Try.results61 hlen h
abbrev f_slices_partialInsertionSortOrdered_string : Nat := 62
theorem en_slices_partialInsertionSortOrdered_string {args : List Value} {w : World} {R : Value → World → Prop} (hlen : Nat.ble args.length 133 = true) (h : SemW Try.prog 133 (Try.f62.body.getD .skip) (retQ tbl [.tmp 6] R) (argEnv 0 args) w) : Cl Try.prog 62 args w R :=
  Cl.enter tblOk Try.call62 Try.func62 Try.ntmps62 rfl Try.results62 hlen h
abbrev f_cmp_Less_string : Nat := 63
theorem en_cmp_Less_string {args : List Value} {w : World} {R : Value → World → Prop} (hlen : Nat.ble args.length 17 = true) (h : SemW Try.prog 17 (Try.f63.body.getD .skip) (retQ tbl [.tmp 4] R) (argEnv 0 args) w) : Cl Try.prog 63 args w R :=
  Cl.enter tblOk Try.call63 Try.func63 Try.ntmps63 rfl Try.results63 hlen h
abbrev f_slices_partitionEqualOrdered_string : Nat := 64
theorem en_slices_partitionEqualOrdered_string {args : List Value} {w : World} {R : Value → World → Prop} (hlen : Nat.ble args.length 84 = true) (h : SemW Try.prog 84 (Try.f64.body.getD .skip) (retQ tbl [.tmp 8] R) (argEnv 0 args) w) : Cl Try.prog 64 args w R :=
  Cl.enter tblOk Try.call64 Try.func64 Try.ntmps64 rfl Try.results64 hlen h
abbrev f_slices_partitionOrdered_string : Nat := 65
theorem en_slices_partitionOrdered_string {args : List Value} {w : World} {R : Value → World → Prop} (hlen : Nat.ble args.length 168 = true) (h : SemW Try.prog 168 (Try.f65.body.getD .skip) (retQ tbl [.tmp 8, .tmp 9] R) (argEnv 0 args) w) : Cl Try.prog 65 args w R :=
  Cl.enter tblOk Try.call65 Try.func65 Try.ntmps65 rfl Try.results65 hlen h
abbrev f_math_bits_Len32 : Nat := 66
theorem en_math_bits_Len32 {args : List Value} {w : World} {R : Value → World → Prop} (hlen : Nat.ble args.length 19 = true) (h : SemW Try.prog 19 (Try.f66.body.getD .skip) (retQ tbl [.tmp 2] R) (argEnv 0 args) w) : Cl Try.prog 66 args w R :=
  Cl.enter tblOk Try.call66 Try.func66 Try.ntmps66 rfl Try.results66 hlen h
abbrev f_math_bits_Len64 : Nat := 67
theorem en_math_bits_Len64 {args : List Value} {w : World} {R : Value → World → Prop} (hlen : Nat.ble args.length 25 = true) (h : SemW Try.prog 25 (Try.f67.body.getD .skip) (retQ tbl [.tmp 2] R) (argEnv 0 args) w) : Cl Try.prog 67 args w R :=
  Cl.enter tblOk Try.call67 Try.func67 Try.ntmps67 rfl Try.results67 hlen h
abbrev f_slices_siftDownOrdered_string : Nat := 68
theorem en_slices_siftDownOrdered_string {args : List Value} {w : World} {R : Value → World → Prop} (hlen : Nat.ble args.length 76 = true) (h : SemW Try.prog 76 (Try.f68.body.getD .skip) (retQ tbl [] R) (argEnv 0 args) w) : Cl Try.prog 68 args w R :=
  Cl.enter tblOk Try.call68 Try.func68 Try.ntmps68 rfl Try.results68 hlen h
abbrev f_slices_nextPowerOfTwo : Nat := 69
theorem en_slices_nextPowerOfTwo {args : List Value} {w : World} {R : Value → World → Prop} (hlen : Nat.ble args.length 7 = true) (h : SemW Try.prog 7 (Try.f69.body.getD .skip) (retQ tbl [.tmp 2] R) (argEnv 0 args) w) : Cl Try.prog 69 args w R :=
  Cl.enter tblOk Try.call69 Try.func69 Try.ntmps69 rfl Try.results69 hlen h
abbrev f_slices_xorshift_Next : Nat := 70
theorem en_slices_xorshift_Next {args : List Value} {w : World} {R : Value → World → Prop} (hlen : Nat.ble args.length 33 = true) (h : SemW Try.prog 33 (Try.f70.body.getD .skip) (retQ tbl [.tmp 2] R) (argEnv 0 args) w) : Cl Try.prog 70 args w R :=
  Cl.enter tblOk Try.call70 Try.func70 Try.ntmps70 rfl Try.results70 hlen h
abbrev f_slices_medianAdjacentOrdered_string : Nat := 71
theorem en_slices_medianAdjacentOrdered_string {args : List Value} {w : World} {R : Value → World → Prop} (hlen : Nat.ble args.length 15 = true) (h : SemW Try.prog 15 (Try.f71.body.getD .skip) (retQ tbl [.tmp 6] R) (argEnv 0 args) w) : Cl Try.prog 71 args w R :=
  Cl.enter tblOk Try.call71 Try.func71 Try.ntmps71 rfl Try.results71 hlen h
abbrev f_slices_medianOrdered_string : Nat := 72
theorem en_slices_medianOrdered_string {args : List Value} {w : World} {R : Value → World → Prop} (hlen : Nat.ble args.length 36 = true) (h : SemW Try.prog 36 (Try.f72.body.getD .skip) (retQ tbl [.tmp 10] R) (argEnv 0 args) w) : Cl Try.prog 72 args w R :=
  Cl.enter tblOk Try.call72 Try.func72 Try.ntmps72 rfl Try.results72 hlen h
abbrev f_cmp_isNaN_string : Nat := 73
theorem en_cmp_isNaN_string {args : List Value} {w : World} {R : Value → World → Prop} (hlen : Nat.ble args.length 6 = true) (h : SemW Try.prog 6 (Try.f73.body.getD .skip) (retQ tbl [.tmp 2] R) (argEnv 0 args) w) : Cl Try.prog 73 args w R :=
  Cl.enter tblOk Try.call73 Try.func73 Try.ntmps73 rfl Try.results73 hlen h
abbrev f_slices_order2Ordered_string : Nat := 74
theorem en_slices_order2Ordered_string {args : List Value} {w : World} {R : Value → World → Prop} (hlen : Nat.ble args.length 28 = true) (h : SemW Try.prog 28 (Try.f74.body.getD .skip) (retQ tbl [.tmp 8, .tmp 9] R) (argEnv 0 args) w) : Cl Try.prog 74 args w R :=
  Cl.enter tblOk Try.call74 Try.func74 Try.ntmps74 rfl Try.results74 hlen h
abbrev f_runtime_boundsError_Error : Nat := 75
abbrev f_runtime_boundsError_RuntimeError : Nat := 76
abbrev f_runtime_errorString_Error : Nat := 77
abbrev f_runtime_errorString_RuntimeError : Nat := 78
abbrev f_runtime_plainError_Error : Nat := 79
abbrev f_runtime_plainError_RuntimeError : Nat := 80
abbrev f_runtime_errorAddressString_Error : Nat := 81
abbrev f_runtime_errorAddressString_RuntimeError : Nat := 82
abbrev f_runtime_TypeAssertionError_Error : Nat := 83
abbrev f_runtime_TypeAssertionError_RuntimeError : Nat := 84
abbrev f_runtime_PanicNilError_Error : Nat := 85
abbrev f_runtime_PanicNilError_RuntimeError : Nat := 86
abbrev f_internal_abi_Type_Align : Nat := 87
theorem func_internal_abi_Type_Align : Try.prog.funcs[87]? = some Try.f87 := Try.func87
abbrev f_internal_runtime_maps_unhashableTypeError_Error : Nat := 88
theorem func_internal_runtime_maps_unhashableTypeError_Error : Try.prog.funcs[88]? = some Try.f88 := Try.func88
abbrev f_internal_runtime_maps_unhashableTypeError_RuntimeError : Nat := 89
theorem func_internal_runtime_maps_unhashableTypeError_RuntimeError : Try.prog.funcs[89]? = some Try.f89 := Try.func89
abbrev f_strings_Builder_Reset : Nat := 90
theorem func_strings_Builder_Reset : Try.prog.funcs[90]? = some Try.f90 := Try.func90
abbrev f_internal_abi_Kind_String : Nat := 91
theorem func_internal_abi_Kind_String : Try.prog.funcs[91]? = some Try.f91 := Try.func91
end Go.Proofs.Ytnmmiiffeenjbaa
